/- Contracts of functions of the program, each with a plain function of the same answers; written by a program of this workplace. -/
import Derived.Test.YtkjkonkgcepanaaPAllx0
import Derived.Test.YtkjkonkgcepanaaPAllx14
import Derived.Test.YtkjkonkgcepanaaPAllx16
namespace Go.Proofs.Ytkjkonkgcepanaa.PAll
open Go.RowKit Go.Proofs.YtkjkonkgcepanaaW.PrintWords Go.Proofs.YtkjkonkgcepanaaW.PrintLast Go.Proofs.YtkjkonkgcepanaaW.PrintMore
attribute [local go_sem] max2_int min2_int max_two min_two max_three min_three max_four min_four   -- for this text's walks alone
set_option linter.unusedVariables false
set_option linter.unusedSimpArgs false

/-! ### prebendref09_Post: function 11 -/
mutual
def prebendref09_Post.l0 : Nat → List (S39) → List (S37) → List Int → List Int → Int → Option (Int × (List (S39)) × Int)
  | 0, _, _, _, _, _ => none
  | k + 1, x1, x2, x9, x10, x11 => if x11 < (x2.length : Int) then (if 0 ≤ x11 then (if ((rd_T37 x2 x11).f0) < 0 then (prebendref09_Post.j1 k x1 x2 x9 x10 x11 true) else (prebendref09_Post.j1 k x1 x2 x9 x10 x11 (decide (((rd_T37 x2 x11).f0) ≥ (x9.length : Int))))) else (none)) else (if (x2.length : Int) < 1 then (prebendref09_Post.j2 k x1 x2 x9 x10 true) else (prebendref09_Post.j2 k x1 x2 x9 x10 (decide ((x2.length : Int) > 64))))
def prebendref09_Post.j1 : Nat → List (S39) → List (S37) → List Int → List Int → Int → Bool → Option (Int × (List (S39)) × Int)
  | 0, _, _, _, _, _, _ => none
  | k + 1, x1, x2, x9, x10, x11, x46 => if x46 = true then (some (0, ([] : List (S39)), 4)) else (if 0 ≤ x11 then (if x11 < (x2.length : Int) then (if ((rd_T37 x2 x11).f1) = 0 then (some (0, ([] : List (S39)), 3)) else (if x10.length < 17592186044416 then (prebendref09_Post.l0 k x1 x2 x9 (x10 ++ [(rd_T37 x2 x11).f1]) (wrap64 (x11 + 1))) else (none))) else (none)) else (none))
def prebendref09_Post.j2 : Nat → List (S39) → List (S37) → List Int → List Int → Bool → Option (Int × (List (S39)) × Int)
  | 0, _, _, _, _, _ => none
  | k + 1, x1, x2, x9, x10, x68 => if x68 = true then (some (0, ([] : List (S39)), 3)) else ((prebendref01_Add.f k x10).bind fun bt177 => (if bt177.2 = 0 then (if bt177.1 = 0 then (prebendref09_Post.l1 k x1 x2 x9 0) else (some (0, ([] : List (S39)), 3))) else (some (0, ([] : List (S39)), bt177.2))))
def prebendref09_Post.l1 : Nat → List (S39) → List (S37) → List Int → Int → Option (Int × (List (S39)) × Int)
  | 0, _, _, _, _ => none
  | k + 1, x1, x2, x9, x14 => if x14 < (x9.length : Int) then (if 0 ≤ x14 then (prebendref09_Post.l2 k x1 x2 x9 x14 (([rd x9 x14] : List Int)) 0) else (none)) else ((some (([] : List (S39)) : List (S39))).bind fun y194 => (if y194.length + x1.length < 2932031007402 then (prebendref09_Post.l3 k x9 (y194 ++ x1) 0) else (none)))
def prebendref09_Post.l2 : Nat → List (S39) → List (S37) → List Int → Int → List Int → Int → Option (Int × (List (S39)) × Int)
  | 0, _, _, _, _, _, _ => none
  | k + 1, x1, x2, x9, x14, x15, x16 => if x16 < (x2.length : Int) then (if 0 ≤ x16 then (if ((rd_T37 x2 x16).f0) = x14 then (if x15.length < 17592186044416 then (prebendref09_Post.l2 k x1 x2 x9 x14 (x15 ++ [(rd_T37 x2 x16).f1]) (wrap64 (x16 + 1))) else (none)) else (prebendref09_Post.l2 k x1 x2 x9 x14 x15 (wrap64 (x16 + 1)))) else (none)) else (if (x15.length : Int) = 1 then (prebendref09_Post.l1 k x1 x2 x9 (wrap64 (x14 + 1))) else ((prebendref01_Add.f k x15).bind fun bt188 => (if bt188.2 = 0 then (if x14 = 0 then (if bt188.1 > 0 then (some (0, ([] : List (S39)), 7)) else (if x14 > 0 then (if bt188.1 < 0 then (some (0, ([] : List (S39)), 7)) else (if 0 ≤ x14 then (if x14 < (x9.length : Int) then (prebendref09_Post.l1 k x1 x2 (x9.set (x14 : Int).toNat bt188.1) (wrap64 (x14 + 1))) else (none)) else (none))) else (if 0 ≤ x14 then (if x14 < (x9.length : Int) then (prebendref09_Post.l1 k x1 x2 (x9.set (x14 : Int).toNat bt188.1) (wrap64 (x14 + 1))) else (none)) else (none)))) else (if x14 > 0 then (if bt188.1 < 0 then (some (0, ([] : List (S39)), 7)) else (if 0 ≤ x14 then (if x14 < (x9.length : Int) then (prebendref09_Post.l1 k x1 x2 (x9.set (x14 : Int).toNat bt188.1) (wrap64 (x14 + 1))) else (none)) else (none))) else (if 0 ≤ x14 then (if x14 < (x9.length : Int) then (prebendref09_Post.l1 k x1 x2 (x9.set (x14 : Int).toNat bt188.1) (wrap64 (x14 + 1))) else (none)) else (none)))) else (some (0, ([] : List (S39)), bt188.2)))))
def prebendref09_Post.l3 : Nat → List Int → List (S39) → Int → Option (Int × (List (S39)) × Int)
  | 0, _, _, _ => none
  | k + 1, x9, x19, x20 => if x20 < (x19.length : Int) then (if 0 ≤ (wrap64 (1 + (wrap64 (3 * x20)))) then (if (wrap64 (1 + (wrap64 (3 * x20)))) < (x9.length : Int) then (if 0 ≤ (wrap64 (2 + (wrap64 (3 * x20)))) then (if (wrap64 (2 + (wrap64 (3 * x20)))) < (x9.length : Int) then (if 0 ≤ (wrap64 (3 + (wrap64 (3 * x20)))) then (if (wrap64 (3 + (wrap64 (3 * x20)))) < (x9.length : Int) then (if 0 ≤ x20 then ((some (x19.set (x20 : Int).toNat (⟨(rd_T39 x19 x20).f0, (rd_T39 x19 x20).f1, (rd_T39 x19 x20).f2, rd x9 (wrap64 (1 + (wrap64 (3 * x20)))), (rd_T39 x19 x20).f4, (rd_T39 x19 x20).f5⟩ : S39) : List (S39))).bind fun y203 => ((some (y203.set (x20 : Int).toNat (⟨(rd_T39 y203 x20).f0, (rd_T39 y203 x20).f1, (rd_T39 y203 x20).f2, (rd_T39 y203 x20).f3, rd x9 (wrap64 (2 + (wrap64 (3 * x20)))), (rd_T39 y203 x20).f5⟩ : S39) : List (S39))).bind fun y204 => (prebendref09_Post.l3 k x9 (y204.set (x20 : Int).toNat (⟨(rd_T39 y204 x20).f0, (rd_T39 y204 x20).f1, (rd_T39 y204 x20).f2, (rd_T39 y204 x20).f3, (rd_T39 y204 x20).f4, rd x9 (wrap64 (3 + (wrap64 (3 * x20))))⟩ : S39)) (wrap64 (x20 + 1))))) else (none)) else (none)) else (none)) else (none)) else (none)) else (none)) else (none)) else (if 0 < (x9.length : Int) then (some (rd x9 0, x19, 0)) else (none))
end
def prebendref09_Post.f (k : Nat) (a0 : Int) (l1 : List (S39)) (l2 : List (S37)) : Option (Int × (List (S39)) × Int) := (prebendref09_Flat.f k a0 l1).bind fun t164 => (prebendref09_Post.l0 k l1 l2 t164 (([] : List Int)) 0)
theorem prebendref09_Post.mono_l : ∀ k, (∀ y0 y1 y2 y3 y4, LeO (prebendref09_Post.l0 k y0 y1 y2 y3 y4) (prebendref09_Post.l0 (k + 1) y0 y1 y2 y3 y4)) ∧ (∀ y0 y1 y2 y3 y4 y5, LeO (prebendref09_Post.j1 k y0 y1 y2 y3 y4 y5) (prebendref09_Post.j1 (k + 1) y0 y1 y2 y3 y4 y5)) ∧ (∀ y0 y1 y2 y3 y4, LeO (prebendref09_Post.j2 k y0 y1 y2 y3 y4) (prebendref09_Post.j2 (k + 1) y0 y1 y2 y3 y4)) ∧ (∀ y0 y1 y2 y3, LeO (prebendref09_Post.l1 k y0 y1 y2 y3) (prebendref09_Post.l1 (k + 1) y0 y1 y2 y3)) ∧ (∀ y0 y1 y2 y3 y4 y5, LeO (prebendref09_Post.l2 k y0 y1 y2 y3 y4 y5) (prebendref09_Post.l2 (k + 1) y0 y1 y2 y3 y4 y5)) ∧ (∀ y0 y1 y2, LeO (prebendref09_Post.l3 k y0 y1 y2) (prebendref09_Post.l3 (k + 1) y0 y1 y2))
  | 0 => ⟨fun _ _ _ _ _ r h => by simp [prebendref09_Post.l0] at h, fun _ _ _ _ _ _ r h => by simp [prebendref09_Post.j1] at h, fun _ _ _ _ _ r h => by simp [prebendref09_Post.j2] at h, fun _ _ _ _ r h => by simp [prebendref09_Post.l1] at h, fun _ _ _ _ _ _ r h => by simp [prebendref09_Post.l2] at h, fun _ _ _ r h => by simp [prebendref09_Post.l3] at h⟩
  | k + 1 => by
    obtain ⟨ih0, ih1, ih2, ih3, ih4, ih5⟩ := prebendref09_Post.mono_l k
    refine ⟨?_, ?_, ?_, ?_, ?_, ?_⟩
    · intro y0 y1 y2 y3 y4
      unfold prebendref09_Post.l0
      repeat' first
      | (with_reducible exact ih0 _ _ _ _ _)
      | (with_reducible exact ih1 _ _ _ _ _ _)
      | (with_reducible exact ih2 _ _ _ _ _)
      | (with_reducible exact ih3 _ _ _ _)
      | (with_reducible exact ih4 _ _ _ _ _ _)
      | (with_reducible exact ih5 _ _ _)
      | (with_reducible exact prebendref01_Add.mono _ _)
      | (with_reducible exact prebendref09_Flat.mono _ _ _)
      | (with_reducible exact LeO.refl _)
      | (with_reducible exact LeO.none _)
      | (with_reducible refine LeO.ite ?_ ?_)
      | (with_reducible refine LeO.bind ?_ (fun _ => ?_))
      | exact ih0 _ _ _ _ _
      | exact ih1 _ _ _ _ _ _
      | exact ih2 _ _ _ _ _
      | exact ih3 _ _ _ _
      | exact ih4 _ _ _ _ _ _
      | exact ih5 _ _ _
      | exact prebendref01_Add.mono _ _
      | exact prebendref09_Flat.mono _ _ _
      | exact LeO.none _
      | refine LeO.ite ?_ ?_
      | refine LeO.bind ?_ (fun _ => ?_)
    · intro y0 y1 y2 y3 y4 y5
      unfold prebendref09_Post.j1
      repeat' first
      | (with_reducible exact ih0 _ _ _ _ _)
      | (with_reducible exact ih1 _ _ _ _ _ _)
      | (with_reducible exact ih2 _ _ _ _ _)
      | (with_reducible exact ih3 _ _ _ _)
      | (with_reducible exact ih4 _ _ _ _ _ _)
      | (with_reducible exact ih5 _ _ _)
      | (with_reducible exact prebendref01_Add.mono _ _)
      | (with_reducible exact prebendref09_Flat.mono _ _ _)
      | (with_reducible exact LeO.refl _)
      | (with_reducible exact LeO.none _)
      | (with_reducible refine LeO.ite ?_ ?_)
      | (with_reducible refine LeO.bind ?_ (fun _ => ?_))
      | exact ih0 _ _ _ _ _
      | exact ih1 _ _ _ _ _ _
      | exact ih2 _ _ _ _ _
      | exact ih3 _ _ _ _
      | exact ih4 _ _ _ _ _ _
      | exact ih5 _ _ _
      | exact prebendref01_Add.mono _ _
      | exact prebendref09_Flat.mono _ _ _
      | exact LeO.none _
      | refine LeO.ite ?_ ?_
      | refine LeO.bind ?_ (fun _ => ?_)
    · intro y0 y1 y2 y3 y4
      unfold prebendref09_Post.j2
      repeat' first
      | (with_reducible exact ih0 _ _ _ _ _)
      | (with_reducible exact ih1 _ _ _ _ _ _)
      | (with_reducible exact ih2 _ _ _ _ _)
      | (with_reducible exact ih3 _ _ _ _)
      | (with_reducible exact ih4 _ _ _ _ _ _)
      | (with_reducible exact ih5 _ _ _)
      | (with_reducible exact prebendref01_Add.mono _ _)
      | (with_reducible exact prebendref09_Flat.mono _ _ _)
      | (with_reducible exact LeO.refl _)
      | (with_reducible exact LeO.none _)
      | (with_reducible refine LeO.ite ?_ ?_)
      | (with_reducible refine LeO.bind ?_ (fun _ => ?_))
      | exact ih0 _ _ _ _ _
      | exact ih1 _ _ _ _ _ _
      | exact ih2 _ _ _ _ _
      | exact ih3 _ _ _ _
      | exact ih4 _ _ _ _ _ _
      | exact ih5 _ _ _
      | exact prebendref01_Add.mono _ _
      | exact prebendref09_Flat.mono _ _ _
      | exact LeO.none _
      | refine LeO.ite ?_ ?_
      | refine LeO.bind ?_ (fun _ => ?_)
    · intro y0 y1 y2 y3
      unfold prebendref09_Post.l1
      repeat' first
      | (with_reducible exact ih0 _ _ _ _ _)
      | (with_reducible exact ih1 _ _ _ _ _ _)
      | (with_reducible exact ih2 _ _ _ _ _)
      | (with_reducible exact ih3 _ _ _ _)
      | (with_reducible exact ih4 _ _ _ _ _ _)
      | (with_reducible exact ih5 _ _ _)
      | (with_reducible exact prebendref01_Add.mono _ _)
      | (with_reducible exact prebendref09_Flat.mono _ _ _)
      | (with_reducible exact LeO.refl _)
      | (with_reducible exact LeO.none _)
      | (with_reducible refine LeO.ite ?_ ?_)
      | (with_reducible refine LeO.bind ?_ (fun _ => ?_))
      | exact ih0 _ _ _ _ _
      | exact ih1 _ _ _ _ _ _
      | exact ih2 _ _ _ _ _
      | exact ih3 _ _ _ _
      | exact ih4 _ _ _ _ _ _
      | exact ih5 _ _ _
      | exact prebendref01_Add.mono _ _
      | exact prebendref09_Flat.mono _ _ _
      | exact LeO.none _
      | refine LeO.ite ?_ ?_
      | refine LeO.bind ?_ (fun _ => ?_)
    · intro y0 y1 y2 y3 y4 y5
      unfold prebendref09_Post.l2
      repeat' first
      | (with_reducible exact ih0 _ _ _ _ _)
      | (with_reducible exact ih1 _ _ _ _ _ _)
      | (with_reducible exact ih2 _ _ _ _ _)
      | (with_reducible exact ih3 _ _ _ _)
      | (with_reducible exact ih4 _ _ _ _ _ _)
      | (with_reducible exact ih5 _ _ _)
      | (with_reducible exact prebendref01_Add.mono _ _)
      | (with_reducible exact prebendref09_Flat.mono _ _ _)
      | (with_reducible exact LeO.refl _)
      | (with_reducible exact LeO.none _)
      | (with_reducible refine LeO.ite ?_ ?_)
      | (with_reducible refine LeO.bind ?_ (fun _ => ?_))
      | exact ih0 _ _ _ _ _
      | exact ih1 _ _ _ _ _ _
      | exact ih2 _ _ _ _ _
      | exact ih3 _ _ _ _
      | exact ih4 _ _ _ _ _ _
      | exact ih5 _ _ _
      | exact prebendref01_Add.mono _ _
      | exact prebendref09_Flat.mono _ _ _
      | exact LeO.none _
      | refine LeO.ite ?_ ?_
      | refine LeO.bind ?_ (fun _ => ?_)
    · intro y0 y1 y2
      unfold prebendref09_Post.l3
      repeat' first
      | (with_reducible exact ih0 _ _ _ _ _)
      | (with_reducible exact ih1 _ _ _ _ _ _)
      | (with_reducible exact ih2 _ _ _ _ _)
      | (with_reducible exact ih3 _ _ _ _)
      | (with_reducible exact ih4 _ _ _ _ _ _)
      | (with_reducible exact ih5 _ _ _)
      | (with_reducible exact prebendref01_Add.mono _ _)
      | (with_reducible exact prebendref09_Flat.mono _ _ _)
      | (with_reducible exact LeO.refl _)
      | (with_reducible exact LeO.none _)
      | (with_reducible refine LeO.ite ?_ ?_)
      | (with_reducible refine LeO.bind ?_ (fun _ => ?_))
      | exact ih0 _ _ _ _ _
      | exact ih1 _ _ _ _ _ _
      | exact ih2 _ _ _ _ _
      | exact ih3 _ _ _ _
      | exact ih4 _ _ _ _ _ _
      | exact ih5 _ _ _
      | exact prebendref01_Add.mono _ _
      | exact prebendref09_Flat.mono _ _ _
      | exact LeO.none _
      | refine LeO.ite ?_ ?_
      | refine LeO.bind ?_ (fun _ => ?_)
theorem prebendref09_Post.mono : ∀ a0 a1 a2 k, LeO (prebendref09_Post.f k a0 a1 a2) (prebendref09_Post.f (k + 1) a0 a1 a2) := by
  intro a0 a1 a2 k
  obtain ⟨ih0, ih1, ih2, ih3, ih4, ih5⟩ := prebendref09_Post.mono_l k
  unfold prebendref09_Post.f
  repeat' first
      | (with_reducible exact ih0 _ _ _ _ _)
      | (with_reducible exact ih1 _ _ _ _ _ _)
      | (with_reducible exact ih2 _ _ _ _ _)
      | (with_reducible exact ih3 _ _ _ _)
      | (with_reducible exact ih4 _ _ _ _ _ _)
      | (with_reducible exact ih5 _ _ _)
      | (with_reducible exact prebendref01_Add.mono _ _)
      | (with_reducible exact prebendref09_Flat.mono _ _ _)
      | (with_reducible exact LeO.refl _)
      | (with_reducible exact LeO.none _)
      | (with_reducible refine LeO.ite ?_ ?_)
      | (with_reducible refine LeO.bind ?_ (fun _ => ?_))
      | exact ih0 _ _ _ _ _
      | exact ih1 _ _ _ _ _ _
      | exact ih2 _ _ _ _ _
      | exact ih3 _ _ _ _
      | exact ih4 _ _ _ _ _ _
      | exact ih5 _ _ _
      | exact prebendref01_Add.mono _ _
      | exact prebendref09_Flat.mono _ _ _
      | exact LeO.none _
      | refine LeO.ite ?_ ?_
      | refine LeO.bind ?_ (fun _ => ?_)
def prebendref09_Post.T38 : Bool × List (List Nat × List Nat) := (true, [([], []), ([], []), ([], []), ([], []), ([], []), ([], []), ([], []), ([], []), ([7], [7]), ([8], [8]), ([6, 9], [6, 9]), ([10], [10]), ([], []), ([], []), ([13], [13]), ([14], [14]), ([12, 15], [12, 15]), ([16], [16]), ([], []), ([], []), ([19], [19]), ([20], [20]), ([18, 21], [18, 21]), ([22], [22]), ([0, 1, 0, 1, 6, 7, 8, 9, 10, 11, 17, 23], [0, 1]), ([24, 0, 1, 6, 7, 8, 9, 10, 11, 17, 23], [24]), ([25, 11, 0, 1, 6, 7, 8, 9, 10, 11, 17, 23], [11, 25]), ([2, 3, 0, 1, 2, 3, 6, 7, 8, 9, 10, 11, 12, 13, 14, 15, 16, 17, 23, 24, 25, 26], [2, 3]), ([27, 0, 1, 2, 3, 6, 7, 8, 9, 10, 11, 12, 13, 14, 15, 16, 17, 23, 24, 25, 26], [27]), ([28, 17, 26, 0, 1, 2, 3, 6, 7, 8, 9, 10, 11, 12, 13, 14, 15, 16, 17, 23, 24, 25, 26], [17, 28]), ([4, 5, 0, 1, 2, 3, 4, 5, 6, 7, 8, 9, 10, 11, 12, 13, 14, 15, 16, 17, 18, 19, 20, 21, 22, 23, 24, 25, 26, 27, 28, 29], [4, 5]), ([30, 0, 1, 2, 3, 4, 5, 6, 7, 8, 9, 10, 11, 12, 13, 14, 15, 16, 17, 18, 19, 20, 21, 22, 23, 24, 25, 26, 27, 28, 29], [30]), ([31, 23, 29, 0, 1, 2, 3, 4, 5, 6, 7, 8, 9, 10, 11, 12, 13, 14, 15, 16, 17, 18, 19, 20, 21, 22, 23, 24, 25, 26, 27, 28, 29], [23, 31])])
def prebendref09_Post.B38 : List Nat := [0, 0, 0, 0, 0, 0, 0, 0, 128, 384, 960, 1984, 0, 0, 8192, 24576, 61440, 126976, 0, 0, 524288, 1572864, 3932160, 8126464, 16777155, 33554371, 67108803, 134217679, 268435407, 536870863, 1073741823, 2147483647, 4294967295]
theorem prebendref09_Post.tab38 : rtab .any (opsOf Try.f11 38) = prebendref09_Post.T38 := by kernel_rfl
theorem prebendref09_Post.bits38 : waitsOk prebendref09_Post.T38.2 prebendref09_Post.B38 = true := by kernel_rfl
set_option maxHeartbeats 8000000 in
set_option maxRecDepth 100000 in
theorem prebendref09_Post.calls (k : Nat) (a0 : Int) (A1 : Option Addr) (c1 : Nat) (l1 : List (S39)) (A2 : Option Addr) (c2 : Nat) (l2 : List (S37)) (r1 : Int) (r2 : List (S39)) (r3 : Int) (w : World) (hr1 : Kd.C k39 w A1 l1.length l1) (hc1 : l1.length ≤ c1) (hr2 : Kd.C k37 w A2 l2.length l2) (hc2 : l2.length ≤ c2) (h : prebendref09_Post.f k a0 l1 l2 = some (r1, r2, r3)) :
    Calls Try.prog 11 #[.int .i64 a0, .slice A1 l1.length c1, .slice A2 l2.length c2] w fun e w' => ∃ v1_ : Value, e = .returned (.tuple #[.int .i64 r1, v1_, .int .i64 r3]) ∧ Kd.R k39 39 w' w.heap.size (fun _ => True) v1_ r2 ∧ Below w.heap.size w w' := by
  have HR1 := Aside0.mk hr1
  have HC1 := Aside0.mk hc1
  clear hr1 hc1
  have HR2 := Aside0.mk hr2
  have HC2 := Aside0.mk hc2
  clear hr2 hc2
  have HB := Aside0.mk (Below.refl w.heap.size w)
  have H : ((prebendref09_Flat.f k a0 l1).bind fun t164 => (prebendref09_Post.l0 k l1 l2 t164 (([] : List Int)) 0)) = some (r1, r2, r3) := h
  clear h
  replace H := Option.bind_eq_some_iff.mp H
  obtain ⟨t164, A40, H⟩ := H
  replace H : (prebendref09_Post.l0 k l1 l2 t164 (([] : List Int)) 0) = some (r1, r2, r3) := H
  have A4 := Aside0.mk A40
  clear A40
  obtain ⟨y167, hy167⟩ : ∃ y_ : List Int, y_ = (([] : List Int)) := ⟨_, rfl⟩
  replace H : (prebendref09_Post.l0 k l1 l2 t164 y167 0) = some (r1, r2, r3) := by first | (rw [hy167]; with_reducible exact H) | (have H2_ := (Option.bind_some _ _).symm.trans H; rw [hy167]; with_reducible exact H2_) | (have H2_ := (Option.bind_some _ _).symm.trans H; with_reducible exact H2_) | with_reducible exact H | (rw [hy167]; exact H) | exact H
  have Ny167 := Aside0.mk hy167
  clear hy167
  have H' := Aside0.mk H
  clear H
  go_enter Try.func11, Try.ntmps11
  go_wp2_with (first | ((with_reducible refine gate_callee (f := 15) rfl ?_); refine goesL_ (some 23) rfl rfl Try.func15 (by kernel_rfl) rfl #[.int .i64 a0, .slice A1 l1.length c1] rfl (by (try simp only [List.map_toArray, List.map_cons, List.map_nil]); first | done | rfl | (simp only [List.length_drop, List.length_take]; rfl)) ?_; (with_reducible refine (prebendref09_Flat.calls k a0 _ _ l1 t164 _ ?side1 ?side2 A4.out).mono ?_); (case side1 => repeat (first | exact HR1.out | (with_reducible refine Kd.C_alloc ?_ _) | (with_reducible refine Kd.C_drewN ?_ _) | (with_reducible refine Kd.C_drew ?_))); (case side2 => exact HC1.out); rintro e w5 ⟨v165, rfl, ho0, hb⟩; refine ⟨_, rfl, ?_⟩; have n0_ := Aside0.mk (Kd.R_lower ho0 (below_size (by repeat (first | (with_reducible first | exact HB.out | apply below_alloc | apply pw_below_drewN | apply below_drew1) | exact HB.out)))); have n1_ := Aside0.mk (below_step (by repeat (first | (with_reducible first | exact HB.out | apply below_alloc | apply pw_below_drewN | apply below_drew1) | exact HB.out)) hb); clear HB; have HO166 := n0_; have HB := n1_; clear n0_ n1_; (try clear hb); (try clear hb2); (try clear hk); (try clear hi); (try clear ho0)) | ((with_reducible refine gate_dst (N := 24) rfl ?_); (try (refine gate_guard (by rfl) ?_; dsimp only)); refine Kd.R_lit (Kd.int .i64) _ 3 ?hg (N := 24) ?hd (xs := ([] : List Int)) (inner := []) (ok := fun _ => True) (okp := fun _ => True) ?hr ?hp (fun _ hk => hk) trivial (Below.refl _ _) (Nat.le_refl _) (by simp) ?_; (case hd => rfl); (case hg => rfl); (case hr => first | (go_simp; done) | (go_simp; rfl)); (case hp => exact (Reps.none _ _)); intro v168 w6 ho7 hb hg_ hnew_; clear hg_ hnew_; (first | rw [← Ny167.out] at ho7 | (simp only [Int.reduceToNat] at ho7; rw [← Ny167.out] at ho7)); have n0_ := Aside0.mk (Kd.R_elder' (by (with_reducible repeat (first | apply Kd.R_alloc | apply Kd.R_drewN | apply Kd.R_drew)); exact HO166.out) (Kd.R_base ho7) hb); have n1_ := Aside0.mk (Kd.R_lower (Kd.R_new' ho7 (Kd.R_lt (by (with_reducible repeat (first | apply Kd.R_alloc | apply Kd.R_drewN | apply Kd.R_drew)); exact HO166.out))) (below_size (by repeat (first | (with_reducible first | exact HB.out | apply below_alloc | apply pw_below_drewN | apply below_drew1) | exact HB.out)))); have n2_ := Aside0.mk (below_step (by repeat (first | (with_reducible first | exact HB.out | apply below_alloc | apply pw_below_drewN | apply below_drew1) | exact HB.out)) hb); clear HO166; clear HB; have HO166 := n0_; have HO169 := n1_; have HB := n2_; clear n0_ n1_ n2_; clear hb ho7))
  go_loopg [10, 11] k (fun kq v10 v11 w' => ∃ (x10_1 : List Int) (x11_1 : Int), v11 = .int .i64 x11_1 ∧ Aside0 (prebendref09_Post.l0 kq l1 l2 t164 x10_1 x11_1 = some (r1, r2, r3)) ∧ Aside0 (kq ≤ k) ∧ Aside0 (Kd.R (Kd.int .i64) 3 w' w.heap.size (fun k_ => some k_ ≠ (v10 : Value).ownBlock) v165 t164) ∧ Aside0 (Kd.R (Kd.int .i64) 3 w' w.heap.size (fun k_ => some k_ ≠ (v165 : Value).ownBlock) v10 x10_1) ∧ Aside0 (Below w.heap.size w w'))
  case atStart => exact ⟨(y167), (0), (by first | rfl | (simp; done) | (simp [*]; done)), H', ⟨Nat.le_refl _⟩, ⟨by (with_reducible repeat (first | apply Kd.R_alloc | apply Kd.R_drewN | apply Kd.R_drew)); exact Kd.R_mono HO166.out (fun _ hk => hk.2)⟩, ⟨by (with_reducible repeat (first | apply Kd.R_alloc | apply Kd.R_drewN | apply Kd.R_drew)); exact Kd.R_mono HO169.out (fun _ hk => hk.2)⟩, ⟨by repeat (first | (with_reducible first | exact HB.out | apply below_alloc | apply pw_below_drewN | apply below_drew1) | exact HB.out)⟩⟩
  case round =>
    clear H'
    try clear c1
    try clear c2
    try clear p2
    obtain ⟨x10_1, x11_1, rfl, HA, HK1, HO_9, HO_10, HB⟩ := hrel
    cases gk with
    | zero => exact absurd HA.out (by simp [prebendref09_Post.l0])
    | succ k1 =>
      have H := HA.out
      clear HA
      simp only [prebendref09_Post.l0] at H
      by_cases c8 : x11_1 < (l2.length : Int)
      · rw [if_pos c8] at H
        have c8b0 : decide (x11_1 < (l2.length : Int)) = true := decide_eq_true c8
        clear c8
        have HC9 := Aside0.mk H
        clear H
        go_upto_region 6 with (fail)
        go_cut [46] (fun v46 wc => ∃ (kq : Nat) (x46_8 : Bool), v46 = .bool x46_8 ∧ Aside0 (prebendref09_Post.j1 kq l1 l2 t164 x10_1 x11_1 x46_8 = some (r1, r2, r3)) ∧ Aside0 (kq ≤ k1) ∧ Aside0 (Kd.R (Kd.int .i64) 3 wc w.heap.size (fun k_ => some k_ ≠ (u10 : Value).ownBlock) v165 t164) ∧ Aside0 (Kd.R (Kd.int .i64) 3 wc w.heap.size (fun k_ => some k_ ≠ (v165 : Value).ownBlock) u10 x10_1) ∧ Aside0 (Below w.heap.size w wc))
        case first =>
          have H := HC9.out
          clear HC9
          by_cases c10 : 0 ≤ x11_1
          · rw [if_pos c10] at H
            have c10b0 : decide (0 ≤ x11_1) = true := decide_eq_true c10
            clear c10
            (first | rw [c10b0] | (simp only [i64_w, i32_w]; rw [c10b0]) | skip)
            by_cases c11 : ((rd_T37 l2 x11_1).f0) < 0
            · rw [if_pos c11] at H
              have c11b0 : decide (((rd_T37 l2 x11_1).f0) < 0) = true := decide_eq_true c11
              clear c11
              have H' := Aside0.mk H
              clear H
              have p170 : 0 ≤ (x11_1 : Int) := of_decide_eq_true (by first | (with_reducible assumption) | assumption)
              have q170 : x11_1 < (l2.length : Int) := of_decide_eq_true (by first | (with_reducible assumption) | assumption)
              obtain ⟨ad170, e170, hx170_0, hx170_1⟩ := at_T37 HR2.out x11_1 p170 q170
              cases e170
              replace hx170_0 := (HB.out.cell (World.block_lt_of_cell? w _ hx170_0)).trans hx170_0
              replace hx170_1 := (HB.out.cell (World.block_lt_of_cell? w _ hx170_1)).trans hx170_1
              replace p170 := eq_true p170
              replace q170 := eq_true q170
              go_wp2
              go_meet
              case rel => exact ⟨_, (true), (by first | rfl | (simp; done) | (simp [*]; done)), H', ⟨by have := HK1.out; first | omega | exact Nat.le_refl _⟩, ⟨by (with_reducible repeat (first | apply Kd.R_alloc | apply Kd.R_drewN | apply Kd.R_drew)); exact HO_9.out⟩, ⟨by (with_reducible repeat (first | apply Kd.R_alloc | apply Kd.R_drewN | apply Kd.R_drew)); exact HO_10.out⟩, ⟨by repeat (first | (with_reducible first | exact HB.out | apply below_alloc | apply pw_below_drewN | apply below_drew1) | exact HB.out)⟩⟩
            · rw [if_neg c11] at H
              have c11b0 : decide (((rd_T37 l2 x11_1).f0) < 0) = false := decide_eq_false c11
              clear c11
              have H' := Aside0.mk H
              clear H
              have p170 : 0 ≤ (x11_1 : Int) := of_decide_eq_true (by first | (with_reducible assumption) | assumption)
              have q170 : x11_1 < (l2.length : Int) := of_decide_eq_true (by first | (with_reducible assumption) | assumption)
              obtain ⟨ad170, e170, hx170_0, hx170_1⟩ := at_T37 HR2.out x11_1 p170 q170
              cases e170
              replace hx170_0 := (HB.out.cell (World.block_lt_of_cell? w _ hx170_0)).trans hx170_0
              replace hx170_1 := (HB.out.cell (World.block_lt_of_cell? w _ hx170_1)).trans hx170_1
              replace p170 := eq_true p170
              replace q170 := eq_true q170
              have p171 : 0 ≤ (x11_1 : Int) := of_decide_eq_true (by first | (with_reducible assumption) | assumption)
              have q171 : x11_1 < (l2.length : Int) := of_decide_eq_true (by first | (with_reducible assumption) | assumption)
              obtain ⟨ad171, e171, hx171_0, hx171_1⟩ := at_T37 HR2.out x11_1 p171 q171
              obtain rfl : ad170 = ad171 := (by injection e171)
              replace hx171_0 := (HB.out.cell (World.block_lt_of_cell? w _ hx171_0)).trans hx171_0
              replace hx171_1 := (HB.out.cell (World.block_lt_of_cell? w _ hx171_1)).trans hx171_1
              replace p171 := eq_true p171
              replace q171 := eq_true q171
              obtain ⟨Ao12, co12, eo12⟩ := Kd.R_slice HO_9.out
              subst eo12
              go_wp2
              go_meet
              case rel => exact ⟨_, (decide (((rd_T37 l2 x11_1).f0) ≥ (t164.length : Int))), (by first | rfl | (simp; done) | (simp [*]; done)), H', ⟨by have := HK1.out; first | omega | exact Nat.le_refl _⟩, ⟨by (with_reducible repeat (first | apply Kd.R_alloc | apply Kd.R_drewN | apply Kd.R_drew)); exact HO_9.out⟩, ⟨by (with_reducible repeat (first | apply Kd.R_alloc | apply Kd.R_drewN | apply Kd.R_drew)); exact HO_10.out⟩, ⟨by repeat (first | (with_reducible first | exact HB.out | apply below_alloc | apply pw_below_drewN | apply below_drew1) | exact HB.out)⟩⟩
          · rw [if_neg c10] at H
            exact absurd H (by simp)
        case rest =>
          clear HC9
          try clear c1
          try clear p1
          try clear q1
          try clear hx1
          try clear c2
          try clear p2
          try clear c8
          try clear c8b0
          try clear c10
          try clear c10b0
          try clear c11
          try clear c11b0
          try clear hx170_0
          try clear hx170_1
          try clear hx171_0
          try clear hx171_1
          try clear p170
          try clear p171
          try clear p2
          try clear q170
          try clear q171
          obtain ⟨kq, x46_8, rfl, HA, HJ8, HO_9, HO_10, HB⟩ := hcut
          cases kq with
          | zero => exact absurd HA.out (by simp [prebendref09_Post.j1])
          | succ kj8 =>
            have H := HA.out
            clear HA
            simp only [prebendref09_Post.j1] at H
            by_cases c13 : x46_8 = true
            · subst c13
              have H1 : (some (0, ([] : List (S39)), 4)) = some (r1, r2, r3) := by rw [if_pos rfl] at H; exact H
              clear H
              have H := H1
              clear H1
              simp only [Option.some.injEq, Prod.mk.injEq] at H
              obtain ⟨rfl, rfl, rfl⟩ := H
              go_wp2
              go_ret3
              exact ⟨_, by first | rfl | (simp [errW_none, errW_some] <;> rfl) | (simp [*, errW_none, errW_some] <;> rfl), by first | exact Kd.R_nil _ _ _ _ _ | exact Kd.N_nil _ _ _ _ _ | exact Kd.V_nil _ _ _ _ _ | exact Kd.Q_nil _ _ _ _ _ | exact Kd.S_nil _ _ _ _ _, by repeat (first | (with_reducible first | exact HB.out | apply below_alloc | apply pw_below_drewN | apply below_drew1) | exact HB.out)⟩
            · replace c13 := Bool.eq_false_iff.mpr c13
              subst c13
              have H1 : (if 0 ≤ x11_1 then (if x11_1 < (l2.length : Int) then (if ((rd_T37 l2 x11_1).f1) = 0 then (some (0, ([] : List (S39)), 3)) else (if x10_1.length < 17592186044416 then (prebendref09_Post.l0 kj8 l1 l2 t164 (x10_1 ++ [(rd_T37 l2 x11_1).f1]) (wrap64 (x11_1 + 1))) else (none))) else (none)) else (none)) = some (r1, r2, r3) := by rw [if_neg (show ¬ (false = true) by decide)] at H; exact H
              clear H
              have H := H1
              clear H1
              by_cases c14 : 0 ≤ x11_1
              · rw [if_pos c14] at H
                have c14b0 : decide (0 ≤ x11_1) = true := decide_eq_true c14
                clear c14
                by_cases c15 : x11_1 < (l2.length : Int)
                · rw [if_pos c15] at H
                  have c15b0 : decide (x11_1 < (l2.length : Int)) = true := decide_eq_true c15
                  clear c15
                  by_cases c16 : ((rd_T37 l2 x11_1).f1) = 0
                  · rw [if_pos c16] at H
                    have c16b0 : (((rd_T37 l2 x11_1).f1) == 0) = true := beq_iff_eq.mpr c16
                    have c16b1 : (((rd_T37 l2 x11_1).f1) != 0) = false := bne_eq_false_iff_eq.mpr c16
                    clear c16
                    simp only [Option.some.injEq, Prod.mk.injEq] at H
                    obtain ⟨rfl, rfl, rfl⟩ := H
                    have p172 : 0 ≤ (x11_1 : Int) := of_decide_eq_true (by first | (with_reducible assumption) | assumption)
                    have q172 : x11_1 < (l2.length : Int) := of_decide_eq_true (by first | (with_reducible assumption) | assumption)
                    obtain ⟨ad172, e172, hx172_0, hx172_1⟩ := at_T37 HR2.out x11_1 p172 q172
                    cases e172
                    replace hx172_0 := (HB.out.cell (World.block_lt_of_cell? w _ hx172_0)).trans hx172_0
                    replace hx172_1 := (HB.out.cell (World.block_lt_of_cell? w _ hx172_1)).trans hx172_1
                    replace p172 := eq_true p172
                    replace q172 := eq_true q172
                    go_wp2
                    go_ret3
                    exact ⟨_, by first | rfl | (simp [errW_none, errW_some] <;> rfl) | (simp [*, errW_none, errW_some] <;> rfl), by first | exact Kd.R_nil _ _ _ _ _ | exact Kd.N_nil _ _ _ _ _ | exact Kd.V_nil _ _ _ _ _ | exact Kd.Q_nil _ _ _ _ _ | exact Kd.S_nil _ _ _ _ _, by repeat (first | (with_reducible first | exact HB.out | apply below_alloc | apply pw_below_drewN | apply below_drew1) | exact HB.out)⟩
                  · rw [if_neg c16] at H
                    have c16b0 : (((rd_T37 l2 x11_1).f1) == 0) = false := beq_eq_false_iff_ne.mpr c16
                    have c16b1 : (((rd_T37 l2 x11_1).f1) != 0) = true := bne_iff_ne.mpr c16
                    by_cases c17 : x10_1.length < 17592186044416
                    · rw [if_pos c17] at H
                      have LMc17 := Aside0.mk c17
                      clear c17
                      obtain ⟨y174, hy174⟩ : ∃ y_ : List Int, y_ = (x10_1 ++ [(rd_T37 l2 x11_1).f1]) := ⟨_, rfl⟩
                      replace H : (prebendref09_Post.l0 kj8 l1 l2 t164 y174 (wrap64 (x11_1 + 1))) = some (r1, r2, r3) := by first | (rw [hy174]; with_reducible exact H) | (have H2_ := (Option.bind_some _ _).symm.trans H; rw [hy174]; with_reducible exact H2_) | (have H2_ := (Option.bind_some _ _).symm.trans H; with_reducible exact H2_) | with_reducible exact H | (rw [hy174]; exact H) | exact H
                      have Ny174 := Aside0.mk hy174
                      clear hy174
                      have H' := Aside0.mk H
                      clear H
                      have p172 : 0 ≤ (x11_1 : Int) := of_decide_eq_true (by first | (with_reducible assumption) | assumption)
                      have q172 : x11_1 < (l2.length : Int) := of_decide_eq_true (by first | (with_reducible assumption) | assumption)
                      obtain ⟨ad172, e172, hx172_0, hx172_1⟩ := at_T37 HR2.out x11_1 p172 q172
                      cases e172
                      replace hx172_0 := (HB.out.cell (World.block_lt_of_cell? w _ hx172_0)).trans hx172_0
                      replace hx172_1 := (HB.out.cell (World.block_lt_of_cell? w _ hx172_1)).trans hx172_1
                      replace p172 := eq_true p172
                      replace q172 := eq_true q172
                      have p173 : 0 ≤ (x11_1 : Int) := of_decide_eq_true (by first | (with_reducible assumption) | assumption)
                      have q173 : x11_1 < (l2.length : Int) := of_decide_eq_true (by first | (with_reducible assumption) | assumption)
                      obtain ⟨ad173, e173, hx173_0, hx173_1⟩ := at_T37 HR2.out x11_1 p173 q173
                      obtain rfl : ad172 = ad173 := (by injection e173)
                      replace hx173_0 := (HB.out.cell (World.block_lt_of_cell? w _ hx173_0)).trans hx173_0
                      replace hx173_1 := (HB.out.cell (World.block_lt_of_cell? w _ hx173_1)).trans hx173_1
                      replace p173 := eq_true p173
                      replace q173 := eq_true q173
                      go_wp2_with (first | ((with_reducible refine gate_builtin (b := .append) (xs := #[.tmp 53, .tmp 59]) rfl ?_); (try (refine gate_guard (by rfl) ?_; dsimp only)); at_builtin; refine Kd.R_append (Kd.int .i64) (w0 := w) w.heap.size rfl (.tmp 53) (.tmp 59) 40 3 (.int .i64 0) 8 rfl Try.underlying40 info3 rfl (by decide) (by omega) u10 x10_1 ((rd_T37 l2 x11_1).f1) [.int .i64 ((rd_T37 l2 x11_1).f1)] (fun k_ => some k_ ≠ (v165 : Value).ownBlock) (fun _ => False) rfl rfl ?aP (fun _ hk => hk.elim) ?aF ?aO ?aB ?aS ?aL ?_; (case aP => exact rfl); (case aB => exact (by repeat (first | (with_reducible first | exact HB.out | apply below_alloc | apply pw_below_drewN | apply below_drew1) | exact HB.out))); (case aF => exact (fun k_ hk => Kd.fresh' (Kd.R_lt (by (with_reducible repeat (first | apply Kd.R_alloc | apply Kd.R_drewN | apply Kd.R_drew)); exact HO_9.out)) k_ hk)); (case aO => exact (by (with_reducible repeat (first | apply Kd.R_alloc | apply Kd.R_drewN | apply Kd.R_drew)); exact HO_10.out)); (case aS => exact (below_size (by repeat (first | (with_reducible first | exact HB.out | apply below_alloc | apply pw_below_drewN | apply below_drew1) | exact HB.out)))); (case aL => have := LMc17.out; omega); intro v175 w18 ho hb hg hat; rw [← Ny174.out] at ho; have n0_ := Aside0.mk (Kd.R_after (ok := (fun _ => True)) (by (with_reducible repeat (first | apply Kd.R_alloc | apply Kd.R_drewN | apply Kd.R_drew)); exact Kd.R_mono HO_9.out (fun _ hk => ⟨trivial, hk⟩)) hg hat); have n1_ := Aside0.mk (hb); have n2_ := Aside0.mk (ho); clear HO_9; clear HB; clear HO_10; have HO_9 := n0_; have HB := n1_; have HO176 := n2_; clear n0_ n1_ n2_; clear ho hb hg hat))
                      go_roundg kj8
                      case measure => have := HK1.out; have := HJ8.out; omega
                      case rel => exact ⟨(y174), (wrap64 (x11_1 + 1)), (by first | rfl | (simp; done) | (simp [*]; done)), H', ⟨by have := HK1.out; have := HJ8.out; omega⟩, ⟨by (with_reducible repeat (first | apply Kd.R_alloc | apply Kd.R_drewN | apply Kd.R_drew)); exact Kd.R_mono HO_9.out (fun _ hk => hk.2)⟩, ⟨by (with_reducible repeat (first | apply Kd.R_alloc | apply Kd.R_drewN | apply Kd.R_drew)); exact HO176.out⟩, ⟨by repeat (first | (with_reducible first | exact HB.out | apply below_alloc | apply pw_below_drewN | apply below_drew1) | exact HB.out)⟩⟩
                    · rw [if_neg c17] at H
                      exact absurd H (by simp)
                · rw [if_neg c15] at H
                  exact absurd H (by simp)
              · rw [if_neg c14] at H
                exact absurd H (by simp)
      · rw [if_neg c8] at H
        have c8b0 : decide (x11_1 < (l2.length : Int)) = false := decide_eq_false c8
        clear c8
        have HC19 := Aside0.mk H
        clear H
        go_upto_region 11 with (fail)
        go_cut [68] (fun v68 wc => ∃ (kq : Nat) (x68_18 : Bool), v68 = .bool x68_18 ∧ Aside0 (prebendref09_Post.j2 kq l1 l2 t164 x10_1 x68_18 = some (r1, r2, r3)) ∧ Aside0 (kq ≤ k1) ∧ Aside0 (Kd.R (Kd.int .i64) 3 wc w.heap.size (fun k_ => some k_ ≠ (u10 : Value).ownBlock) v165 t164) ∧ Aside0 (Kd.R (Kd.int .i64) 3 wc w.heap.size (fun k_ => some k_ ≠ (v165 : Value).ownBlock) u10 x10_1) ∧ Aside0 (Below w.heap.size w wc))
        case first =>
          have H := HC19.out
          clear HC19
          by_cases c20 : (l2.length : Int) < 1
          · rw [if_pos c20] at H
            have c20b0 : decide ((l2.length : Int) < 1) = true := decide_eq_true c20
            have c20b1 : decide (l2.length < 1) = true := decide_eq_true (by omega)
            clear c20
            (first | rw [c20b0] | (simp only [i64_w, i32_w]; rw [c20b0]) | skip)
            have H' := Aside0.mk H
            clear H
            go_wp2
            go_meet
            case rel => exact ⟨_, (true), (by first | rfl | (simp; done) | (simp [*]; done)), H', ⟨by have := HK1.out; first | omega | exact Nat.le_refl _⟩, ⟨by (with_reducible repeat (first | apply Kd.R_alloc | apply Kd.R_drewN | apply Kd.R_drew)); exact HO_9.out⟩, ⟨by (with_reducible repeat (first | apply Kd.R_alloc | apply Kd.R_drewN | apply Kd.R_drew)); exact HO_10.out⟩, ⟨by repeat (first | (with_reducible first | exact HB.out | apply below_alloc | apply pw_below_drewN | apply below_drew1) | exact HB.out)⟩⟩
          · rw [if_neg c20] at H
            have c20b0 : decide ((l2.length : Int) < 1) = false := decide_eq_false c20
            have c20b1 : decide (l2.length < 1) = false := decide_eq_false (by omega)
            clear c20
            (first | rw [c20b0] | (simp only [i64_w, i32_w]; rw [c20b0]) | skip)
            have H' := Aside0.mk H
            clear H
            go_wp2
            go_meet
            case rel => exact ⟨_, (decide ((l2.length : Int) > 64)), (by first | rfl | (simp; done) | (simp [*]; done)), H', ⟨by have := HK1.out; first | omega | exact Nat.le_refl _⟩, ⟨by (with_reducible repeat (first | apply Kd.R_alloc | apply Kd.R_drewN | apply Kd.R_drew)); exact HO_9.out⟩, ⟨by (with_reducible repeat (first | apply Kd.R_alloc | apply Kd.R_drewN | apply Kd.R_drew)); exact HO_10.out⟩, ⟨by repeat (first | (with_reducible first | exact HB.out | apply below_alloc | apply pw_below_drewN | apply below_drew1) | exact HB.out)⟩⟩
        case rest =>
          clear HC19
          try clear c1
          try clear p1
          try clear q1
          try clear hx1
          try clear c2
          try clear p2
          try clear p6
          try clear c8
          try clear c8b0
          try clear c10
          try clear c10b0
          try clear c11
          try clear c11b0
          try clear c13
          try clear c14
          try clear c14b0
          try clear c15
          try clear c15b0
          try clear c16
          try clear c16b0
          try clear c16b1
          try clear c17
          try clear p17
          try clear q17
          try clear hx17
          try clear c20
          try clear c20b0
          try clear c20b1
          try clear hx170_0
          try clear hx170_1
          try clear hx171_0
          try clear hx171_1
          try clear hx172_0
          try clear hx172_1
          try clear hx173_0
          try clear hx173_1
          try clear p1
          try clear p170
          try clear p171
          try clear p172
          try clear p173
          try clear p2
          try clear q1
          try clear q170
          try clear q171
          try clear q172
          try clear q173
          obtain ⟨kq, x68_18, rfl, HA, HJ18, HO_9, HO_10, HB⟩ := hcut
          cases kq with
          | zero => exact absurd HA.out (by simp [prebendref09_Post.j2])
          | succ kj18 =>
            have H := HA.out
            clear HA
            simp only [prebendref09_Post.j2] at H
            by_cases c21 : x68_18 = true
            · subst c21
              have H1 : (some (0, ([] : List (S39)), 3)) = some (r1, r2, r3) := by rw [if_pos rfl] at H; exact H
              clear H
              have H := H1
              clear H1
              simp only [Option.some.injEq, Prod.mk.injEq] at H
              obtain ⟨rfl, rfl, rfl⟩ := H
              go_wp2
              go_ret3
              exact ⟨_, by first | rfl | (simp [errW_none, errW_some] <;> rfl) | (simp [*, errW_none, errW_some] <;> rfl), by first | exact Kd.R_nil _ _ _ _ _ | exact Kd.N_nil _ _ _ _ _ | exact Kd.V_nil _ _ _ _ _ | exact Kd.Q_nil _ _ _ _ _ | exact Kd.S_nil _ _ _ _ _, by repeat (first | (with_reducible first | exact HB.out | apply below_alloc | apply pw_below_drewN | apply below_drew1) | exact HB.out)⟩
            · replace c21 := Bool.eq_false_iff.mpr c21
              subst c21
              have H1 : ((prebendref01_Add.f kj18 x10_1).bind fun bt177 => (if bt177.2 = 0 then (if bt177.1 = 0 then (prebendref09_Post.l1 kj18 l1 l2 t164 0) else (some (0, ([] : List (S39)), 3))) else (some (0, ([] : List (S39)), bt177.2)))) = some (r1, r2, r3) := by rw [if_neg (show ¬ (false = true) by decide)] at H; exact H
              clear H
              have H := H1
              clear H1
              replace H := Option.bind_eq_some_iff.mp H
              obtain ⟨⟨t177, t178⟩, A220, H⟩ := H
              replace H : (if t178 = 0 then (if t177 = 0 then (prebendref09_Post.l1 kj18 l1 l2 t164 0) else (some (0, ([] : List (S39)), 3))) else (some (0, ([] : List (S39)), t178))) = some (r1, r2, r3) := H
              have A22 := Aside0.mk A220
              clear A220
              by_cases c23 : t178 = 0
              · rw [if_pos c23] at H
                have c23b0 : (t178 == 0) = true := beq_iff_eq.mpr c23
                have c23b1 : (t178 != 0) = false := bne_eq_false_iff_eq.mpr c23
                clear c23
                by_cases c24 : t177 = 0
                · rw [if_pos c24] at H
                  have c24b0 : (t177 == 0) = true := beq_iff_eq.mpr c24
                  have c24b1 : (t177 != 0) = false := bne_eq_false_iff_eq.mpr c24
                  clear c24
                  have H' := Aside0.mk H
                  clear H
                  obtain ⟨Ao25, co25, eo25⟩ := Kd.R_slice HO_10.out
                  subst eo25
                  go_wp2_with (first | ((with_reducible refine gate_callee (f := 17) rfl ?_); refine goesL_ (some 71) rfl rfl Try.func17 (by kernel_rfl) rfl #[.slice Ao25 x10_1.length co25] rfl (by (try simp only [List.map_toArray, List.map_cons, List.map_nil]); first | done | rfl | (simp only [List.length_drop, List.length_take]; rfl)) ?_; (with_reducible refine (prebendref01_Add.calls kj18 _ _ x10_1 t177 t178 _ ?side1 ?side2 A22.out).mono ?_); (case side1 => repeat (first | exact (Kd.R_reads' HO_10.out).2.2 | (with_reducible refine Kd.C_alloc ?_ _) | (with_reducible refine Kd.C_drewN ?_ _) | (with_reducible refine Kd.C_drew ?_))); (case side2 => exact (Kd.R_reads' HO_10.out).2.1); rintro e w' ⟨rfl, ⟨nd, rfl⟩⟩; refine ⟨_, rfl, ?_⟩))
                  go_loopg [14] kj18 (fun kq v14 w' => ∃ (x9_3 : List Int) (x14_3 : Int), v14 = .int .i64 x14_3 ∧ Aside0 (prebendref09_Post.l1 kq l1 l2 x9_3 x14_3 = some (r1, r2, r3)) ∧ Aside0 (kq ≤ kj18) ∧ Aside0 (Kd.R (Kd.int .i64) 3 w' w.heap.size (fun _ => True) v165 x9_3) ∧ Aside0 (Below w.heap.size w w'))
                  case atStart => exact ⟨(t164), (0), (by first | rfl | (simp; done) | (simp [*]; done)), H', ⟨Nat.le_refl _⟩, ⟨by (with_reducible repeat (first | apply Kd.R_alloc | apply Kd.R_drewN | apply Kd.R_drew)); exact Kd.R_mono HO_9.out (fun _ hk => trivial)⟩, ⟨by repeat (first | (with_reducible first | exact HB.out | apply below_alloc | apply pw_below_drewN | apply below_drew1) | exact HB.out)⟩⟩
                  case round =>
                    clear H'
                    try clear c1
                    try clear p1
                    try clear q1
                    try clear hx1
                    try clear c2
                    try clear p2
                    try clear p6
                    try clear c8
                    try clear c8b0
                    try clear c10
                    try clear c10b0
                    try clear c11
                    try clear c11b0
                    try clear c13
                    try clear c14
                    try clear c14b0
                    try clear c15
                    try clear c15b0
                    try clear c16
                    try clear c16b0
                    try clear c16b1
                    try clear c17
                    try clear p17
                    try clear q17
                    try clear hx17
                    try clear c20
                    try clear c20b0
                    try clear c20b1
                    try clear c21
                    try clear c23
                    try clear c23b0
                    try clear c23b1
                    try clear c24
                    try clear c24b0
                    try clear c24b1
                    try clear hx170_0
                    try clear hx170_1
                    try clear hx171_0
                    try clear hx171_1
                    try clear hx172_0
                    try clear hx172_1
                    try clear hx173_0
                    try clear hx173_1
                    try clear p1
                    try clear p17
                    try clear p170
                    try clear p171
                    try clear p172
                    try clear p173
                    try clear p2
                    try clear p6
                    try clear q1
                    try clear q17
                    try clear q170
                    try clear q171
                    try clear q172
                    try clear q173
                    obtain ⟨x9_3, x14_3, rfl, HA, HK3, HO_9, HB⟩ := hrel
                    cases gk with
                    | zero => exact absurd HA.out (by simp [prebendref09_Post.l1])
                    | succ k3 =>
                      have H := HA.out
                      clear HA
                      simp only [prebendref09_Post.l1] at H
                      by_cases c26 : x14_3 < (x9_3.length : Int)
                      · rw [if_pos c26] at H
                        have c26b0 : decide (x14_3 < (x9_3.length : Int)) = true := decide_eq_true c26
                        clear c26
                        by_cases c27 : 0 ≤ x14_3
                        · rw [if_pos c27] at H
                          have c27b0 : decide (0 ≤ x14_3) = true := decide_eq_true c27
                          clear c27
                          obtain ⟨y180, hy180⟩ : ∃ y_ : List Int, y_ = (([rd x9_3 x14_3] : List Int)) := ⟨_, rfl⟩
                          replace H : (prebendref09_Post.l2 k3 l1 l2 x9_3 x14_3 y180 0) = some (r1, r2, r3) := by first | (rw [hy180]; with_reducible exact H) | (have H2_ := (Option.bind_some _ _).symm.trans H; rw [hy180]; with_reducible exact H2_) | (have H2_ := (Option.bind_some _ _).symm.trans H; with_reducible exact H2_) | with_reducible exact H | (rw [hy180]; exact H) | exact H
                          have Ny180 := Aside0.mk hy180
                          clear hy180
                          have H' := Aside0.mk H
                          clear H
                          obtain ⟨Ao28, co28, eo28⟩ := Kd.R_slice HO_9.out
                          subst eo28
                          have p179 : 0 ≤ (x14_3 : Int) := of_decide_eq_true (by first | (with_reducible assumption) | assumption)
                          have q179 : x14_3 < (x9_3.length : Int) := of_decide_eq_true (by first | (with_reducible assumption) | assumption)
                          obtain ⟨ad179, e179, hx179_0⟩ := Kd.at_int (Kd.R_reads' HO_9.out).2.2 x14_3 p179 q179
                          cases e179
                          replace p179 := eq_true p179
                          replace q179 := eq_true q179
                          go_wp2_with (first | ((with_reducible refine gate_dst (N := 89) rfl ?_); (try (refine gate_guard (by rfl) ?_; dsimp only)); refine Kd.R_lit (Kd.int .i64) _ 3 ?hg (N := 89) ?hd (xs := ([rd x9_3 x14_3] : List Int)) (inner := [.int .i64 (rd x9_3 x14_3)]) (ok := fun _ => True) (okp := fun _ => True) ?hr ?hp (fun _ hk => hk) trivial (Below.refl _ _) (Nat.le_refl _) (by simp) ?_; (case hd => rfl); (case hg => rfl); (case hr => first | (go_simp; done) | (go_simp; rfl)); (case hp => exact (Reps.one (show Kd.M (Kd.int .i64) _ _ _ (rd x9_3 x14_3) [.int .i64 (rd x9_3 x14_3)] from rfl) (Reps.none _ _))); intro v181 w29 ho30 hb hg_ hnew_; clear hg_ hnew_; (first | rw [← Ny180.out] at ho30 | (simp only [Int.reduceToNat] at ho30; rw [← Ny180.out] at ho30)); have n0_ := Aside0.mk (Kd.R_elder' (by (with_reducible repeat (first | apply Kd.R_alloc | apply Kd.R_drewN | apply Kd.R_drew)); exact HO_9.out) (Kd.R_base ho30) hb); have n1_ := Aside0.mk (Kd.R_lower (Kd.R_new' ho30 (Kd.R_lt (by (with_reducible repeat (first | apply Kd.R_alloc | apply Kd.R_drewN | apply Kd.R_drew)); exact HO_9.out))) (below_size (by repeat (first | (with_reducible first | exact HB.out | apply below_alloc | apply pw_below_drewN | apply below_drew1) | exact HB.out)))); have n2_ := Aside0.mk (below_step (by repeat (first | (with_reducible first | exact HB.out | apply below_alloc | apply pw_below_drewN | apply below_drew1) | exact HB.out)) hb); clear HO_9; clear HB; have HO_9 := n0_; have HO182 := n1_; have HB := n2_; clear n0_ n1_ n2_; clear hb ho30))
                          go_loopg [15, 16] k3 (fun kq v15 v16 w' => ∃ (x15_4 : List Int) (x16_4 : Int), v16 = .int .i64 x16_4 ∧ Aside0 (prebendref09_Post.l2 kq l1 l2 x9_3 x14_3 x15_4 x16_4 = some (r1, r2, r3)) ∧ Aside0 (kq ≤ k3) ∧ Aside0 (Kd.R (Kd.int .i64) 3 w' w.heap.size (fun k_ => some k_ ≠ (v15 : Value).ownBlock) (.slice (some ad179) x9_3.length co28) x9_3) ∧ Aside0 (Kd.R (Kd.int .i64) 3 w' w.heap.size (fun k_ => some k_ ≠ ((.slice (some ad179) x9_3.length co28) : Value).ownBlock) v15 x15_4) ∧ Aside0 (Below w.heap.size w w'))
                          case atStart => exact ⟨(y180), (0), (by first | rfl | (simp; done) | (simp [*]; done)), H', ⟨Nat.le_refl _⟩, ⟨by (with_reducible repeat (first | apply Kd.R_alloc | apply Kd.R_drewN | apply Kd.R_drew)); exact Kd.R_mono HO_9.out (fun _ hk => hk.2)⟩, ⟨by (with_reducible repeat (first | apply Kd.R_alloc | apply Kd.R_drewN | apply Kd.R_drew)); exact Kd.R_mono HO182.out (fun _ hk => hk.2)⟩, ⟨by repeat (first | (with_reducible first | exact HB.out | apply below_alloc | apply pw_below_drewN | apply below_drew1) | exact HB.out)⟩⟩
                          case round =>
                            clear H'
                            try clear c1
                            try clear p1
                            try clear q1
                            try clear hx1
                            try clear c2
                            try clear p2
                            try clear p6
                            try clear c8
                            try clear c8b0
                            try clear c10
                            try clear c10b0
                            try clear c11
                            try clear c11b0
                            try clear c13
                            try clear c14
                            try clear c14b0
                            try clear c15
                            try clear c15b0
                            try clear c16
                            try clear c16b0
                            try clear c16b1
                            try clear c17
                            try clear p17
                            try clear q17
                            try clear hx17
                            try clear c20
                            try clear c20b0
                            try clear c20b1
                            try clear c21
                            try clear c23
                            try clear c23b0
                            try clear c23b1
                            try clear c24
                            try clear c24b0
                            try clear c24b1
                            try clear c26
                            try clear c26b0
                            try clear c27
                            try clear c27b0
                            try clear hx170_0
                            try clear hx170_1
                            try clear hx171_0
                            try clear hx171_1
                            try clear hx172_0
                            try clear hx172_1
                            try clear hx173_0
                            try clear hx173_1
                            try clear hx179_0
                            try clear p1
                            try clear p17
                            try clear p170
                            try clear p171
                            try clear p172
                            try clear p173
                            try clear p179
                            try clear p2
                            try clear p6
                            try clear q1
                            try clear q17
                            try clear q170
                            try clear q171
                            try clear q172
                            try clear q173
                            try clear q179
                            obtain ⟨x15_4, x16_4, rfl, HA, HK4, HO_9, HO_15, HB⟩ := hrel
                            cases gk with
                            | zero => exact absurd HA.out (by simp [prebendref09_Post.l2])
                            | succ k4 =>
                              have H := HA.out
                              clear HA
                              simp only [prebendref09_Post.l2] at H
                              by_cases c31 : x16_4 < (l2.length : Int)
                              · rw [if_pos c31] at H
                                have c31b0 : decide (x16_4 < (l2.length : Int)) = true := decide_eq_true c31
                                clear c31
                                by_cases c32 : 0 ≤ x16_4
                                · rw [if_pos c32] at H
                                  have c32b0 : decide (0 ≤ x16_4) = true := decide_eq_true c32
                                  clear c32
                                  by_cases c33 : ((rd_T37 l2 x16_4).f0) = x14_3
                                  · rw [if_pos c33] at H
                                    have c33b0 : (((rd_T37 l2 x16_4).f0) == x14_3) = true := beq_iff_eq.mpr c33
                                    have c33b1 : (((rd_T37 l2 x16_4).f0) != x14_3) = false := bne_eq_false_iff_eq.mpr c33
                                    clear c33
                                    by_cases c34 : x15_4.length < 17592186044416
                                    · rw [if_pos c34] at H
                                      have LMc34 := Aside0.mk c34
                                      clear c34
                                      obtain ⟨y185, hy185⟩ : ∃ y_ : List Int, y_ = (x15_4 ++ [(rd_T37 l2 x16_4).f1]) := ⟨_, rfl⟩
                                      replace H : (prebendref09_Post.l2 k4 l1 l2 x9_3 x14_3 y185 (wrap64 (x16_4 + 1))) = some (r1, r2, r3) := by first | (rw [hy185]; with_reducible exact H) | (have H2_ := (Option.bind_some _ _).symm.trans H; rw [hy185]; with_reducible exact H2_) | (have H2_ := (Option.bind_some _ _).symm.trans H; with_reducible exact H2_) | with_reducible exact H | (rw [hy185]; exact H) | exact H
                                      have Ny185 := Aside0.mk hy185
                                      clear hy185
                                      have H' := Aside0.mk H
                                      clear H
                                      have p183 : 0 ≤ (x16_4 : Int) := of_decide_eq_true (by first | (with_reducible assumption) | assumption)
                                      have q183 : x16_4 < (l2.length : Int) := of_decide_eq_true (by first | (with_reducible assumption) | assumption)
                                      obtain ⟨ad183, e183, hx183_0, hx183_1⟩ := at_T37 HR2.out x16_4 p183 q183
                                      cases e183
                                      replace hx183_0 := (HB.out.cell (World.block_lt_of_cell? w _ hx183_0)).trans hx183_0
                                      replace hx183_1 := (HB.out.cell (World.block_lt_of_cell? w _ hx183_1)).trans hx183_1
                                      replace p183 := eq_true p183
                                      replace q183 := eq_true q183
                                      have p184 : 0 ≤ (x16_4 : Int) := of_decide_eq_true (by first | (with_reducible assumption) | assumption)
                                      have q184 : x16_4 < (l2.length : Int) := of_decide_eq_true (by first | (with_reducible assumption) | assumption)
                                      obtain ⟨ad184, e184, hx184_0, hx184_1⟩ := at_T37 HR2.out x16_4 p184 q184
                                      obtain rfl : ad183 = ad184 := (by injection e184)
                                      replace hx184_0 := (HB.out.cell (World.block_lt_of_cell? w _ hx184_0)).trans hx184_0
                                      replace hx184_1 := (HB.out.cell (World.block_lt_of_cell? w _ hx184_1)).trans hx184_1
                                      replace p184 := eq_true p184
                                      replace q184 := eq_true q184
                                      go_wp2_with (first | ((with_reducible refine gate_builtin (b := .append) (xs := #[.tmp 103, .tmp 109]) rfl ?_); (try (refine gate_guard (by rfl) ?_; dsimp only)); at_builtin; refine Kd.R_append (Kd.int .i64) (w0 := w) w.heap.size rfl (.tmp 103) (.tmp 109) 40 3 (.int .i64 0) 8 rfl Try.underlying40 info3 rfl (by decide) (by omega) u15 x15_4 ((rd_T37 l2 x16_4).f1) [.int .i64 ((rd_T37 l2 x16_4).f1)] (fun k_ => some k_ ≠ (.slice (some ad179) x9_3.length co28 : Value).ownBlock) (fun _ => False) rfl rfl ?aP (fun _ hk => hk.elim) ?aF ?aO ?aB ?aS ?aL ?_; (case aP => exact rfl); (case aB => exact (by repeat (first | (with_reducible first | exact HB.out | apply below_alloc | apply pw_below_drewN | apply below_drew1) | exact HB.out))); (case aF => exact (fun k_ hk => Kd.fresh' (Kd.R_lt (by (with_reducible repeat (first | apply Kd.R_alloc | apply Kd.R_drewN | apply Kd.R_drew)); exact HO_9.out)) k_ hk)); (case aO => exact (by (with_reducible repeat (first | apply Kd.R_alloc | apply Kd.R_drewN | apply Kd.R_drew)); exact HO_15.out)); (case aS => exact (below_size (by repeat (first | (with_reducible first | exact HB.out | apply below_alloc | apply pw_below_drewN | apply below_drew1) | exact HB.out)))); (case aL => have := LMc34.out; omega); intro v186 w35 ho hb hg hat; rw [← Ny185.out] at ho; have n0_ := Aside0.mk (Kd.R_after (ok := (fun _ => True)) (by (with_reducible repeat (first | apply Kd.R_alloc | apply Kd.R_drewN | apply Kd.R_drew)); exact Kd.R_mono HO_9.out (fun _ hk => ⟨trivial, hk⟩)) hg hat); have n1_ := Aside0.mk (hb); have n2_ := Aside0.mk (ho); clear HO_9; clear HB; clear HO_15; have HO_9 := n0_; have HB := n1_; have HO187 := n2_; clear n0_ n1_ n2_; clear ho hb hg hat))
                                      go_roundg k4
                                      case measure => have := HK1.out; have := HJ18.out; have := HK3.out; have := HK4.out; omega
                                      case rel => exact ⟨(y185), (wrap64 (x16_4 + 1)), (by first | rfl | (simp; done) | (simp [*]; done)), H', ⟨by have := HK1.out; have := HJ18.out; have := HK3.out; have := HK4.out; omega⟩, ⟨by (with_reducible repeat (first | apply Kd.R_alloc | apply Kd.R_drewN | apply Kd.R_drew)); exact Kd.R_mono HO_9.out (fun _ hk => hk.2)⟩, ⟨by (with_reducible repeat (first | apply Kd.R_alloc | apply Kd.R_drewN | apply Kd.R_drew)); exact HO187.out⟩, ⟨by repeat (first | (with_reducible first | exact HB.out | apply below_alloc | apply pw_below_drewN | apply below_drew1) | exact HB.out)⟩⟩
                                    · rw [if_neg c34] at H
                                      exact absurd H (by simp)
                                  · rw [if_neg c33] at H
                                    have c33b0 : (((rd_T37 l2 x16_4).f0) == x14_3) = false := beq_eq_false_iff_ne.mpr c33
                                    have c33b1 : (((rd_T37 l2 x16_4).f0) != x14_3) = true := bne_iff_ne.mpr c33
                                    have H' := Aside0.mk H
                                    clear H
                                    have p183 : 0 ≤ (x16_4 : Int) := of_decide_eq_true (by first | (with_reducible assumption) | assumption)
                                    have q183 : x16_4 < (l2.length : Int) := of_decide_eq_true (by first | (with_reducible assumption) | assumption)
                                    obtain ⟨ad183, e183, hx183_0, hx183_1⟩ := at_T37 HR2.out x16_4 p183 q183
                                    cases e183
                                    replace hx183_0 := (HB.out.cell (World.block_lt_of_cell? w _ hx183_0)).trans hx183_0
                                    replace hx183_1 := (HB.out.cell (World.block_lt_of_cell? w _ hx183_1)).trans hx183_1
                                    replace p183 := eq_true p183
                                    replace q183 := eq_true q183
                                    go_wp2
                                    go_roundg k4
                                    case measure => have := HK1.out; have := HJ18.out; have := HK3.out; have := HK4.out; omega
                                    case rel => exact ⟨(x15_4), (wrap64 (x16_4 + 1)), (by first | rfl | (simp; done) | (simp [*]; done)), H', ⟨by have := HK1.out; have := HJ18.out; have := HK3.out; have := HK4.out; omega⟩, ⟨by (with_reducible repeat (first | apply Kd.R_alloc | apply Kd.R_drewN | apply Kd.R_drew)); exact HO_9.out⟩, ⟨by (with_reducible repeat (first | apply Kd.R_alloc | apply Kd.R_drewN | apply Kd.R_drew)); exact HO_15.out⟩, ⟨by repeat (first | (with_reducible first | exact HB.out | apply below_alloc | apply pw_below_drewN | apply below_drew1) | exact HB.out)⟩⟩
                                · rw [if_neg c32] at H
                                  exact absurd H (by simp)
                              · rw [if_neg c31] at H
                                have c31b0 : decide (x16_4 < (l2.length : Int)) = false := decide_eq_false c31
                                clear c31
                                by_cases c36 : (x15_4.length : Int) = 1
                                · rw [if_pos c36] at H
                                  have c36b0 : ((x15_4.length : Int) == 1) = true := beq_iff_eq.mpr c36
                                  have c36b1 : ((x15_4.length : Int) != 1) = false := bne_eq_false_iff_eq.mpr c36
                                  clear c36
                                  have H' := Aside0.mk H
                                  clear H
                                  obtain ⟨Ao37, co37, eo37⟩ := Kd.R_slice HO_15.out
                                  subst eo37
                                  go_wp2
                                  go_roundg k4
                                  case measure => have := HK1.out; have := HJ18.out; have := HK3.out; have := HK4.out; omega
                                  case rel => exact ⟨(x9_3), (wrap64 (x14_3 + 1)), (by first | rfl | (simp; done) | (simp [*]; done)), H', ⟨by have := HK1.out; have := HJ18.out; have := HK3.out; have := HK4.out; omega⟩, ⟨by (with_reducible repeat (first | apply Kd.R_alloc | apply Kd.R_drewN | apply Kd.R_drew)); exact Kd.R_mono HO_9.out (fun _ hk => trivial)⟩, ⟨by repeat (first | (with_reducible first | exact HB.out | apply below_alloc | apply pw_below_drewN | apply below_drew1) | exact HB.out)⟩⟩
                                · rw [if_neg c36] at H
                                  have c36b0 : ((x15_4.length : Int) == 1) = false := beq_eq_false_iff_ne.mpr c36
                                  have c36b1 : ((x15_4.length : Int) != 1) = true := bne_iff_ne.mpr c36
                                  replace H := Option.bind_eq_some_iff.mp H
                                  obtain ⟨⟨t188, t189⟩, A380, H⟩ := H
                                  replace H : (if t189 = 0 then (if x14_3 = 0 then (if t188 > 0 then (some (0, ([] : List (S39)), 7)) else (if x14_3 > 0 then (if t188 < 0 then (some (0, ([] : List (S39)), 7)) else (if 0 ≤ x14_3 then (if x14_3 < (x9_3.length : Int) then (prebendref09_Post.l1 k4 l1 l2 (x9_3.set (x14_3 : Int).toNat t188) (wrap64 (x14_3 + 1))) else (none)) else (none))) else (if 0 ≤ x14_3 then (if x14_3 < (x9_3.length : Int) then (prebendref09_Post.l1 k4 l1 l2 (x9_3.set (x14_3 : Int).toNat t188) (wrap64 (x14_3 + 1))) else (none)) else (none)))) else (if x14_3 > 0 then (if t188 < 0 then (some (0, ([] : List (S39)), 7)) else (if 0 ≤ x14_3 then (if x14_3 < (x9_3.length : Int) then (prebendref09_Post.l1 k4 l1 l2 (x9_3.set (x14_3 : Int).toNat t188) (wrap64 (x14_3 + 1))) else (none)) else (none))) else (if 0 ≤ x14_3 then (if x14_3 < (x9_3.length : Int) then (prebendref09_Post.l1 k4 l1 l2 (x9_3.set (x14_3 : Int).toNat t188) (wrap64 (x14_3 + 1))) else (none)) else (none)))) else (some (0, ([] : List (S39)), t189))) = some (r1, r2, r3) := H
                                  have A38 := Aside0.mk A380
                                  clear A380
                                  by_cases c39 : t189 = 0
                                  · rw [if_pos c39] at H
                                    have c39b0 : (t189 == 0) = true := beq_iff_eq.mpr c39
                                    have c39b1 : (t189 != 0) = false := bne_eq_false_iff_eq.mpr c39
                                    clear c39
                                    by_cases c40 : x14_3 = 0
                                    · rw [if_pos c40] at H
                                      have c40b0 : (x14_3 == 0) = true := beq_iff_eq.mpr c40
                                      have c40b1 : (x14_3 != 0) = false := bne_eq_false_iff_eq.mpr c40
                                      clear c40
                                      by_cases c41 : t188 > 0
                                      · rw [if_pos c41] at H
                                        have c41b0 : decide (0 < t188) = true := decide_eq_true c41
                                        clear c41
                                        simp only [Option.some.injEq, Prod.mk.injEq] at H
                                        obtain ⟨rfl, rfl, rfl⟩ := H
                                        obtain ⟨Ao42, co42, eo42⟩ := Kd.R_slice HO_15.out
                                        subst eo42
                                        go_wp2_with (first | ((with_reducible refine gate_callee (f := 17) rfl ?_); refine goesL_ (some 116) rfl rfl Try.func17 (by kernel_rfl) rfl #[.slice Ao42 x15_4.length co42] rfl (by (try simp only [List.map_toArray, List.map_cons, List.map_nil]); first | done | rfl | (simp only [List.length_drop, List.length_take]; rfl)) ?_; (with_reducible refine (prebendref01_Add.calls k4 _ _ x15_4 t188 t189 _ ?side1 ?side2 A38.out).mono ?_); (case side1 => repeat (first | exact (Kd.R_reads' HO_15.out).2.2 | (with_reducible refine Kd.C_alloc ?_ _) | (with_reducible refine Kd.C_drewN ?_ _) | (with_reducible refine Kd.C_drew ?_))); (case side2 => exact (Kd.R_reads' HO_15.out).2.1); rintro e w' ⟨rfl, ⟨nd, rfl⟩⟩; refine ⟨_, rfl, ?_⟩))
                                        go_ret3
                                        exact ⟨_, by first | rfl | (simp [errW_none, errW_some] <;> rfl) | (simp [*, errW_none, errW_some] <;> rfl), by first | exact Kd.R_nil _ _ _ _ _ | exact Kd.N_nil _ _ _ _ _ | exact Kd.V_nil _ _ _ _ _ | exact Kd.Q_nil _ _ _ _ _ | exact Kd.S_nil _ _ _ _ _, by repeat (first | (with_reducible first | exact HB.out | apply below_alloc | apply pw_below_drewN | apply below_drew1) | exact HB.out)⟩
                                      · rw [if_neg c41] at H
                                        have c41b0 : decide (0 < t188) = false := decide_eq_false c41
                                        clear c41
                                        by_cases c43 : x14_3 > 0
                                        · rw [if_pos c43] at H
                                          have c43b0 : decide (0 < x14_3) = true := decide_eq_true c43
                                          clear c43
                                          by_cases c44 : t188 < 0
                                          · rw [if_pos c44] at H
                                            have c44b0 : decide (t188 < 0) = true := decide_eq_true c44
                                            clear c44
                                            simp only [Option.some.injEq, Prod.mk.injEq] at H
                                            obtain ⟨rfl, rfl, rfl⟩ := H
                                            obtain ⟨Ao45, co45, eo45⟩ := Kd.R_slice HO_15.out
                                            subst eo45
                                            go_wp2_with (first | ((with_reducible refine gate_callee (f := 17) rfl ?_); refine goesL_ (some 116) rfl rfl Try.func17 (by kernel_rfl) rfl #[.slice Ao45 x15_4.length co45] rfl (by (try simp only [List.map_toArray, List.map_cons, List.map_nil]); first | done | rfl | (simp only [List.length_drop, List.length_take]; rfl)) ?_; (with_reducible refine (prebendref01_Add.calls k4 _ _ x15_4 t188 t189 _ ?side1 ?side2 A38.out).mono ?_); (case side1 => repeat (first | exact (Kd.R_reads' HO_15.out).2.2 | (with_reducible refine Kd.C_alloc ?_ _) | (with_reducible refine Kd.C_drewN ?_ _) | (with_reducible refine Kd.C_drew ?_))); (case side2 => exact (Kd.R_reads' HO_15.out).2.1); rintro e w' ⟨rfl, ⟨nd, rfl⟩⟩; refine ⟨_, rfl, ?_⟩))
                                            go_ret3
                                            exact ⟨_, by first | rfl | (simp [errW_none, errW_some] <;> rfl) | (simp [*, errW_none, errW_some] <;> rfl), by first | exact Kd.R_nil _ _ _ _ _ | exact Kd.N_nil _ _ _ _ _ | exact Kd.V_nil _ _ _ _ _ | exact Kd.Q_nil _ _ _ _ _ | exact Kd.S_nil _ _ _ _ _, by repeat (first | (with_reducible first | exact HB.out | apply below_alloc | apply pw_below_drewN | apply below_drew1) | exact HB.out)⟩
                                          · rw [if_neg c44] at H
                                            have c44b0 : decide (t188 < 0) = false := decide_eq_false c44
                                            clear c44
                                            by_cases c46 : 0 ≤ x14_3
                                            · rw [if_pos c46] at H
                                              have c46b0 : decide (0 ≤ x14_3) = true := decide_eq_true c46
                                              clear c46
                                              by_cases c47 : x14_3 < (x9_3.length : Int)
                                              · rw [if_pos c47] at H
                                                have c47b0 : decide (x14_3 < (x9_3.length : Int)) = true := decide_eq_true c47
                                                clear c47
                                                obtain ⟨y190, hy190⟩ : ∃ y_ : List Int, y_ = (x9_3.set (x14_3 : Int).toNat t188) := ⟨_, rfl⟩
                                                replace H : (prebendref09_Post.l1 k4 l1 l2 y190 (wrap64 (x14_3 + 1))) = some (r1, r2, r3) := by first | (rw [hy190]; with_reducible exact H) | (have H2_ := (Option.bind_some _ _).symm.trans H; rw [hy190]; with_reducible exact H2_) | (have H2_ := (Option.bind_some _ _).symm.trans H; with_reducible exact H2_) | with_reducible exact H | (rw [hy190]; exact H) | exact H
                                                have Ny190 := Aside0.mk hy190
                                                clear hy190
                                                have H' := Aside0.mk H
                                                clear H
                                                obtain ⟨Ao49, co49, eo49⟩ := Kd.R_slice HO_15.out
                                                subst eo49
                                                go_wp2_with (first | ((with_reducible refine gate_callee (f := 17) rfl ?_); refine goesL_ (some 116) rfl rfl Try.func17 (by kernel_rfl) rfl #[.slice Ao49 x15_4.length co49] rfl (by (try simp only [List.map_toArray, List.map_cons, List.map_nil]); first | done | rfl | (simp only [List.length_drop, List.length_take]; rfl)) ?_; (with_reducible refine (prebendref01_Add.calls k4 _ _ x15_4 t188 t189 _ ?side1 ?side2 A38.out).mono ?_); (case side1 => repeat (first | exact (Kd.R_reads' HO_15.out).2.2 | (with_reducible refine Kd.C_alloc ?_ _) | (with_reducible refine Kd.C_drewN ?_ _) | (with_reducible refine Kd.C_drew ?_))); (case side2 => exact (Kd.R_reads' HO_15.out).2.1); rintro e w' ⟨rfl, ⟨nd, rfl⟩⟩; refine ⟨_, rfl, ?_⟩; (try (rw [drewN_self wr]; generalize hq_ : World.drewN wr _ = wr; have n0_ : Aside0 (Kd.R (Kd.int .i64) 3 wr w.heap.size (fun k_ => some k_ ≠ (.slice (some ad179) x9_3.length co28 : Value).ownBlock) (.slice Ao49 x15_4.length co49) x15_4) := ⟨by rw [← hq_]; exact (by (with_reducible repeat (first | apply Kd.R_alloc | apply Kd.R_drewN | apply Kd.R_drew)); exact HO_15.out)⟩; have n1_ : Aside0 (Kd.R (Kd.int .i64) 3 wr w.heap.size (fun k_ => some k_ ≠ (.slice Ao49 x15_4.length co49 : Value).ownBlock) (.slice (some ad179) x9_3.length co28) x9_3) := ⟨by rw [← hq_]; exact (by (with_reducible repeat (first | apply Kd.R_alloc | apply Kd.R_drewN | apply Kd.R_drew)); exact HO_9.out)⟩; have n2_ : Aside0 (Below w.heap.size w wr) := ⟨by rw [← hq_]; exact (by repeat (first | (with_reducible first | exact HB.out | apply below_alloc | apply pw_below_drewN | apply below_drew1) | exact HB.out))⟩; clear HO_15 HO_9 HB hq_; have HO_15 := n0_; have HO_9 := n1_; have HB := n2_; clear n0_ n1_ n2_)); have p48 : 0 ≤ (x14_3 : Int) := of_decide_eq_true (by first | (with_reducible assumption) | assumption); have q48 : (x14_3 : Int) < ((x9_3.length : Int) : Int) := of_decide_eq_true (by first | (with_reducible assumption) | assumption); obtain ⟨go48, co48, eo48, gb48, gl48, cl48, HG48⟩ := Kd.R_form HO_9.out (by omega); (first | cases eo48 | (injection eo48 with ea_ en_ ec_; (first | subst ea_ | (injection ea_ with ea_; subst ea_)); subst ec_; clear en_)); have GB48 := Aside0.mk gb48; have GG48 := Aside0.mk HG48; clear gb48 gl48 HG48; (first | simp only [add_plain] at hx179_0 | skip); obtain ⟨hx48_0, hf48_0⟩ := Kd.R_celln 0 HO_9.out (x14_3 : Int) p48 q48; replace p48 := eq_true p48; replace q48 := eq_true q48; obtain ⟨hy50_, hz50_⟩ := Kd.R_celln 0 HO_9.out (x14_3 : Int) (of_decide_eq_true (by first | (with_reducible assumption) | assumption)) (of_decide_eq_true (by first | (with_reducible assumption) | assumption)); have HP50 := Kd.R_putg HO_9.out (x14_3 : Int) t188) | ((with_reducible refine gate_store (t := 3) (p := 139) rfl ?_); refine store_event (t := 3) (p := 139) (v := ?vo_w51) (w1 := (wr.setCell ⟨go48, (x14_3 : Int).toNat, none⟩ (.int .i64 t188))) ?hg ?ho ?hn ?hr ?_; (case ho => rfl); (case hg => rfl); (case hn => rfl); (case hr => first | (go_simp; done) | (go_simp; rfl)); intro w51 hw; have hg : wr.grownBy w51 (some go48) := (by rw [hw]; exact HP50.2); have hp_ : Kd.R (Kd.int .i64) 3 w51 w.heap.size (fun k_ => some k_ ≠ (.slice Ao49 x15_4.length co49 : Value).ownBlock) (.slice (some ⟨go48, 0, none⟩) x9_3.length co28) y190 := (by rw [hw, Ny190.out]; exact HP50.1); clear HP50; have n0_ := Aside0.mk (hp_); have n1_ := Aside0.mk (Kd.R_after (v := (.slice (some ⟨go48, 0, none⟩) x9_3.length co28)) (v1 := (.slice (some ⟨go48, 0, none⟩) x9_3.length co28)) (ok := (fun _ => True)) (by (with_reducible repeat (first | apply Kd.R_alloc | apply Kd.R_drewN | apply Kd.R_drew)); exact Kd.R_mono HO_15.out (fun _ hk => ⟨trivial, hk⟩)) hg (.inl rfl)); have n2_ := Aside0.mk ((by rw [hw]; exact below_set (HB.out) GB48.out : Below w.heap.size w w51)); clear HO_9; clear HO_15; clear HB; have HO_9 := n0_; have HO_15 := n1_; have HB := n2_; clear n0_ n1_ n2_; clear hg hw hp_))
                                                go_roundg k4
                                                case measure => have := HK1.out; have := HJ18.out; have := HK3.out; have := HK4.out; omega
                                                case rel => exact ⟨(y190), (wrap64 (x14_3 + 1)), (by first | rfl | (simp; done) | (simp [*]; done)), H', ⟨by have := HK1.out; have := HJ18.out; have := HK3.out; have := HK4.out; omega⟩, ⟨by (with_reducible repeat (first | apply Kd.R_alloc | apply Kd.R_drewN | apply Kd.R_drew)); exact Kd.R_mono HO_9.out (fun _ hk => trivial)⟩, ⟨by repeat (first | (with_reducible first | exact HB.out | apply below_alloc | apply pw_below_drewN | apply below_drew1) | exact HB.out)⟩⟩
                                              · rw [if_neg c47] at H
                                                exact absurd H (by simp)
                                            · rw [if_neg c46] at H
                                              exact absurd H (by simp)
                                        · rw [if_neg c43] at H
                                          have c43b0 : decide (0 < x14_3) = false := decide_eq_false c43
                                          clear c43
                                          by_cases c52 : 0 ≤ x14_3
                                          · rw [if_pos c52] at H
                                            have c52b0 : decide (0 ≤ x14_3) = true := decide_eq_true c52
                                            clear c52
                                            by_cases c53 : x14_3 < (x9_3.length : Int)
                                            · rw [if_pos c53] at H
                                              have c53b0 : decide (x14_3 < (x9_3.length : Int)) = true := decide_eq_true c53
                                              clear c53
                                              obtain ⟨y191, hy191⟩ : ∃ y_ : List Int, y_ = (x9_3.set (x14_3 : Int).toNat t188) := ⟨_, rfl⟩
                                              replace H : (prebendref09_Post.l1 k4 l1 l2 y191 (wrap64 (x14_3 + 1))) = some (r1, r2, r3) := by first | (rw [hy191]; with_reducible exact H) | (have H2_ := (Option.bind_some _ _).symm.trans H; rw [hy191]; with_reducible exact H2_) | (have H2_ := (Option.bind_some _ _).symm.trans H; with_reducible exact H2_) | with_reducible exact H | (rw [hy191]; exact H) | exact H
                                              have Ny191 := Aside0.mk hy191
                                              clear hy191
                                              have H' := Aside0.mk H
                                              clear H
                                              obtain ⟨Ao55, co55, eo55⟩ := Kd.R_slice HO_15.out
                                              subst eo55
                                              go_wp2_with (first | ((with_reducible refine gate_callee (f := 17) rfl ?_); refine goesL_ (some 116) rfl rfl Try.func17 (by kernel_rfl) rfl #[.slice Ao55 x15_4.length co55] rfl (by (try simp only [List.map_toArray, List.map_cons, List.map_nil]); first | done | rfl | (simp only [List.length_drop, List.length_take]; rfl)) ?_; (with_reducible refine (prebendref01_Add.calls k4 _ _ x15_4 t188 t189 _ ?side1 ?side2 A38.out).mono ?_); (case side1 => repeat (first | exact (Kd.R_reads' HO_15.out).2.2 | (with_reducible refine Kd.C_alloc ?_ _) | (with_reducible refine Kd.C_drewN ?_ _) | (with_reducible refine Kd.C_drew ?_))); (case side2 => exact (Kd.R_reads' HO_15.out).2.1); rintro e w' ⟨rfl, ⟨nd, rfl⟩⟩; refine ⟨_, rfl, ?_⟩; (try (rw [drewN_self wr]; generalize hq_ : World.drewN wr _ = wr; have n0_ : Aside0 (Kd.R (Kd.int .i64) 3 wr w.heap.size (fun k_ => some k_ ≠ (.slice (some ad179) x9_3.length co28 : Value).ownBlock) (.slice Ao55 x15_4.length co55) x15_4) := ⟨by rw [← hq_]; exact (by (with_reducible repeat (first | apply Kd.R_alloc | apply Kd.R_drewN | apply Kd.R_drew)); exact HO_15.out)⟩; have n1_ : Aside0 (Kd.R (Kd.int .i64) 3 wr w.heap.size (fun k_ => some k_ ≠ (.slice Ao55 x15_4.length co55 : Value).ownBlock) (.slice (some ad179) x9_3.length co28) x9_3) := ⟨by rw [← hq_]; exact (by (with_reducible repeat (first | apply Kd.R_alloc | apply Kd.R_drewN | apply Kd.R_drew)); exact HO_9.out)⟩; have n2_ : Aside0 (Below w.heap.size w wr) := ⟨by rw [← hq_]; exact (by repeat (first | (with_reducible first | exact HB.out | apply below_alloc | apply pw_below_drewN | apply below_drew1) | exact HB.out))⟩; clear HO_15 HO_9 HB hq_; have HO_15 := n0_; have HO_9 := n1_; have HB := n2_; clear n0_ n1_ n2_)); have p54 : 0 ≤ (x14_3 : Int) := of_decide_eq_true (by first | (with_reducible assumption) | assumption); have q54 : (x14_3 : Int) < ((x9_3.length : Int) : Int) := of_decide_eq_true (by first | (with_reducible assumption) | assumption); obtain ⟨go54, co54, eo54, gb54, gl54, cl54, HG54⟩ := Kd.R_form HO_9.out (by omega); (first | cases eo54 | (injection eo54 with ea_ en_ ec_; (first | subst ea_ | (injection ea_ with ea_; subst ea_)); subst ec_; clear en_)); have GB54 := Aside0.mk gb54; have GG54 := Aside0.mk HG54; clear gb54 gl54 HG54; obtain ⟨hx54_0, hf54_0⟩ := Kd.R_celln 0 HO_9.out (x14_3 : Int) p54 q54; replace p54 := eq_true p54; replace q54 := eq_true q54; obtain ⟨hy56_, hz56_⟩ := Kd.R_celln 0 HO_9.out (x14_3 : Int) (of_decide_eq_true (by first | (with_reducible assumption) | assumption)) (of_decide_eq_true (by first | (with_reducible assumption) | assumption)); have HP56 := Kd.R_putg HO_9.out (x14_3 : Int) t188) | ((with_reducible refine gate_store (t := 3) (p := 139) rfl ?_); refine store_event (t := 3) (p := 139) (v := ?vo_w57) (w1 := (wr.setCell ⟨go54, (x14_3 : Int).toNat, none⟩ (.int .i64 t188))) ?hg ?ho ?hn ?hr ?_; (case ho => rfl); (case hg => rfl); (case hn => rfl); (case hr => first | (go_simp; done) | (go_simp; rfl)); intro w57 hw; have hg : wr.grownBy w57 (some go54) := (by rw [hw]; exact HP56.2); have hp_ : Kd.R (Kd.int .i64) 3 w57 w.heap.size (fun k_ => some k_ ≠ (.slice Ao55 x15_4.length co55 : Value).ownBlock) (.slice (some ⟨go54, 0, none⟩) x9_3.length co28) y191 := (by rw [hw, Ny191.out]; exact HP56.1); clear HP56; have n0_ := Aside0.mk (hp_); have n1_ := Aside0.mk (Kd.R_after (v := (.slice (some ⟨go54, 0, none⟩) x9_3.length co28)) (v1 := (.slice (some ⟨go54, 0, none⟩) x9_3.length co28)) (ok := (fun _ => True)) (by (with_reducible repeat (first | apply Kd.R_alloc | apply Kd.R_drewN | apply Kd.R_drew)); exact Kd.R_mono HO_15.out (fun _ hk => ⟨trivial, hk⟩)) hg (.inl rfl)); have n2_ := Aside0.mk ((by rw [hw]; exact below_set (HB.out) GB54.out : Below w.heap.size w w57)); clear HO_9; clear HO_15; clear HB; have HO_9 := n0_; have HO_15 := n1_; have HB := n2_; clear n0_ n1_ n2_; clear hg hw hp_))
                                              go_roundg k4
                                              case measure => have := HK1.out; have := HJ18.out; have := HK3.out; have := HK4.out; omega
                                              case rel => exact ⟨(y191), (wrap64 (x14_3 + 1)), (by first | rfl | (simp; done) | (simp [*]; done)), H', ⟨by have := HK1.out; have := HJ18.out; have := HK3.out; have := HK4.out; omega⟩, ⟨by (with_reducible repeat (first | apply Kd.R_alloc | apply Kd.R_drewN | apply Kd.R_drew)); exact Kd.R_mono HO_9.out (fun _ hk => trivial)⟩, ⟨by repeat (first | (with_reducible first | exact HB.out | apply below_alloc | apply pw_below_drewN | apply below_drew1) | exact HB.out)⟩⟩
                                            · rw [if_neg c53] at H
                                              exact absurd H (by simp)
                                          · rw [if_neg c52] at H
                                            exact absurd H (by simp)
                                    · rw [if_neg c40] at H
                                      have c40b0 : (x14_3 == 0) = false := beq_eq_false_iff_ne.mpr c40
                                      have c40b1 : (x14_3 != 0) = true := bne_iff_ne.mpr c40
                                      by_cases c58 : x14_3 > 0
                                      · rw [if_pos c58] at H
                                        have c58b0 : decide (0 < x14_3) = true := decide_eq_true c58
                                        clear c58
                                        by_cases c59 : t188 < 0
                                        · rw [if_pos c59] at H
                                          have c59b0 : decide (t188 < 0) = true := decide_eq_true c59
                                          clear c59
                                          simp only [Option.some.injEq, Prod.mk.injEq] at H
                                          obtain ⟨rfl, rfl, rfl⟩ := H
                                          obtain ⟨Ao60, co60, eo60⟩ := Kd.R_slice HO_15.out
                                          subst eo60
                                          go_wp2_with (first | ((with_reducible refine gate_callee (f := 17) rfl ?_); refine goesL_ (some 116) rfl rfl Try.func17 (by kernel_rfl) rfl #[.slice Ao60 x15_4.length co60] rfl (by (try simp only [List.map_toArray, List.map_cons, List.map_nil]); first | done | rfl | (simp only [List.length_drop, List.length_take]; rfl)) ?_; (with_reducible refine (prebendref01_Add.calls k4 _ _ x15_4 t188 t189 _ ?side1 ?side2 A38.out).mono ?_); (case side1 => repeat (first | exact (Kd.R_reads' HO_15.out).2.2 | (with_reducible refine Kd.C_alloc ?_ _) | (with_reducible refine Kd.C_drewN ?_ _) | (with_reducible refine Kd.C_drew ?_))); (case side2 => exact (Kd.R_reads' HO_15.out).2.1); rintro e w' ⟨rfl, ⟨nd, rfl⟩⟩; refine ⟨_, rfl, ?_⟩))
                                          go_ret3
                                          exact ⟨_, by first | rfl | (simp [errW_none, errW_some] <;> rfl) | (simp [*, errW_none, errW_some] <;> rfl), by first | exact Kd.R_nil _ _ _ _ _ | exact Kd.N_nil _ _ _ _ _ | exact Kd.V_nil _ _ _ _ _ | exact Kd.Q_nil _ _ _ _ _ | exact Kd.S_nil _ _ _ _ _, by repeat (first | (with_reducible first | exact HB.out | apply below_alloc | apply pw_below_drewN | apply below_drew1) | exact HB.out)⟩
                                        · rw [if_neg c59] at H
                                          have c59b0 : decide (t188 < 0) = false := decide_eq_false c59
                                          clear c59
                                          by_cases c61 : 0 ≤ x14_3
                                          · rw [if_pos c61] at H
                                            have c61b0 : decide (0 ≤ x14_3) = true := decide_eq_true c61
                                            clear c61
                                            by_cases c62 : x14_3 < (x9_3.length : Int)
                                            · rw [if_pos c62] at H
                                              have c62b0 : decide (x14_3 < (x9_3.length : Int)) = true := decide_eq_true c62
                                              clear c62
                                              obtain ⟨y192, hy192⟩ : ∃ y_ : List Int, y_ = (x9_3.set (x14_3 : Int).toNat t188) := ⟨_, rfl⟩
                                              replace H : (prebendref09_Post.l1 k4 l1 l2 y192 (wrap64 (x14_3 + 1))) = some (r1, r2, r3) := by first | (rw [hy192]; with_reducible exact H) | (have H2_ := (Option.bind_some _ _).symm.trans H; rw [hy192]; with_reducible exact H2_) | (have H2_ := (Option.bind_some _ _).symm.trans H; with_reducible exact H2_) | with_reducible exact H | (rw [hy192]; exact H) | exact H
                                              have Ny192 := Aside0.mk hy192
                                              clear hy192
                                              have H' := Aside0.mk H
                                              clear H
                                              obtain ⟨Ao64, co64, eo64⟩ := Kd.R_slice HO_15.out
                                              subst eo64
                                              go_wp2_with (first | ((with_reducible refine gate_callee (f := 17) rfl ?_); refine goesL_ (some 116) rfl rfl Try.func17 (by kernel_rfl) rfl #[.slice Ao64 x15_4.length co64] rfl (by (try simp only [List.map_toArray, List.map_cons, List.map_nil]); first | done | rfl | (simp only [List.length_drop, List.length_take]; rfl)) ?_; (with_reducible refine (prebendref01_Add.calls k4 _ _ x15_4 t188 t189 _ ?side1 ?side2 A38.out).mono ?_); (case side1 => repeat (first | exact (Kd.R_reads' HO_15.out).2.2 | (with_reducible refine Kd.C_alloc ?_ _) | (with_reducible refine Kd.C_drewN ?_ _) | (with_reducible refine Kd.C_drew ?_))); (case side2 => exact (Kd.R_reads' HO_15.out).2.1); rintro e w' ⟨rfl, ⟨nd, rfl⟩⟩; refine ⟨_, rfl, ?_⟩; (try (rw [drewN_self wr]; generalize hq_ : World.drewN wr _ = wr; have n0_ : Aside0 (Kd.R (Kd.int .i64) 3 wr w.heap.size (fun k_ => some k_ ≠ (.slice (some ad179) x9_3.length co28 : Value).ownBlock) (.slice Ao64 x15_4.length co64) x15_4) := ⟨by rw [← hq_]; exact (by (with_reducible repeat (first | apply Kd.R_alloc | apply Kd.R_drewN | apply Kd.R_drew)); exact HO_15.out)⟩; have n1_ : Aside0 (Kd.R (Kd.int .i64) 3 wr w.heap.size (fun k_ => some k_ ≠ (.slice Ao64 x15_4.length co64 : Value).ownBlock) (.slice (some ad179) x9_3.length co28) x9_3) := ⟨by rw [← hq_]; exact (by (with_reducible repeat (first | apply Kd.R_alloc | apply Kd.R_drewN | apply Kd.R_drew)); exact HO_9.out)⟩; have n2_ : Aside0 (Below w.heap.size w wr) := ⟨by rw [← hq_]; exact (by repeat (first | (with_reducible first | exact HB.out | apply below_alloc | apply pw_below_drewN | apply below_drew1) | exact HB.out))⟩; clear HO_15 HO_9 HB hq_; have HO_15 := n0_; have HO_9 := n1_; have HB := n2_; clear n0_ n1_ n2_)); have p63 : 0 ≤ (x14_3 : Int) := of_decide_eq_true (by first | (with_reducible assumption) | assumption); have q63 : (x14_3 : Int) < ((x9_3.length : Int) : Int) := of_decide_eq_true (by first | (with_reducible assumption) | assumption); obtain ⟨go63, co63, eo63, gb63, gl63, cl63, HG63⟩ := Kd.R_form HO_9.out (by omega); (first | cases eo63 | (injection eo63 with ea_ en_ ec_; (first | subst ea_ | (injection ea_ with ea_; subst ea_)); subst ec_; clear en_)); have GB63 := Aside0.mk gb63; have GG63 := Aside0.mk HG63; clear gb63 gl63 HG63; obtain ⟨hx63_0, hf63_0⟩ := Kd.R_celln 0 HO_9.out (x14_3 : Int) p63 q63; replace p63 := eq_true p63; replace q63 := eq_true q63; obtain ⟨hy65_, hz65_⟩ := Kd.R_celln 0 HO_9.out (x14_3 : Int) (of_decide_eq_true (by first | (with_reducible assumption) | assumption)) (of_decide_eq_true (by first | (with_reducible assumption) | assumption)); have HP65 := Kd.R_putg HO_9.out (x14_3 : Int) t188) | ((with_reducible refine gate_store (t := 3) (p := 139) rfl ?_); refine store_event (t := 3) (p := 139) (v := ?vo_w66) (w1 := (wr.setCell ⟨go63, (x14_3 : Int).toNat, none⟩ (.int .i64 t188))) ?hg ?ho ?hn ?hr ?_; (case ho => rfl); (case hg => rfl); (case hn => rfl); (case hr => first | (go_simp; done) | (go_simp; rfl)); intro w66 hw; have hg : wr.grownBy w66 (some go63) := (by rw [hw]; exact HP65.2); have hp_ : Kd.R (Kd.int .i64) 3 w66 w.heap.size (fun k_ => some k_ ≠ (.slice Ao64 x15_4.length co64 : Value).ownBlock) (.slice (some ⟨go63, 0, none⟩) x9_3.length co28) y192 := (by rw [hw, Ny192.out]; exact HP65.1); clear HP65; have n0_ := Aside0.mk (hp_); have n1_ := Aside0.mk (Kd.R_after (v := (.slice (some ⟨go63, 0, none⟩) x9_3.length co28)) (v1 := (.slice (some ⟨go63, 0, none⟩) x9_3.length co28)) (ok := (fun _ => True)) (by (with_reducible repeat (first | apply Kd.R_alloc | apply Kd.R_drewN | apply Kd.R_drew)); exact Kd.R_mono HO_15.out (fun _ hk => ⟨trivial, hk⟩)) hg (.inl rfl)); have n2_ := Aside0.mk ((by rw [hw]; exact below_set (HB.out) GB63.out : Below w.heap.size w w66)); clear HO_9; clear HO_15; clear HB; have HO_9 := n0_; have HO_15 := n1_; have HB := n2_; clear n0_ n1_ n2_; clear hg hw hp_))
                                              go_roundg k4
                                              case measure => have := HK1.out; have := HJ18.out; have := HK3.out; have := HK4.out; omega
                                              case rel => exact ⟨(y192), (wrap64 (x14_3 + 1)), (by first | rfl | (simp; done) | (simp [*]; done)), H', ⟨by have := HK1.out; have := HJ18.out; have := HK3.out; have := HK4.out; omega⟩, ⟨by (with_reducible repeat (first | apply Kd.R_alloc | apply Kd.R_drewN | apply Kd.R_drew)); exact Kd.R_mono HO_9.out (fun _ hk => trivial)⟩, ⟨by repeat (first | (with_reducible first | exact HB.out | apply below_alloc | apply pw_below_drewN | apply below_drew1) | exact HB.out)⟩⟩
                                            · rw [if_neg c62] at H
                                              exact absurd H (by simp)
                                          · rw [if_neg c61] at H
                                            exact absurd H (by simp)
                                      · rw [if_neg c58] at H
                                        have c58b0 : decide (0 < x14_3) = false := decide_eq_false c58
                                        clear c58
                                        by_cases c67 : 0 ≤ x14_3
                                        · rw [if_pos c67] at H
                                          have c67b0 : decide (0 ≤ x14_3) = true := decide_eq_true c67
                                          clear c67
                                          by_cases c68 : x14_3 < (x9_3.length : Int)
                                          · rw [if_pos c68] at H
                                            have c68b0 : decide (x14_3 < (x9_3.length : Int)) = true := decide_eq_true c68
                                            clear c68
                                            obtain ⟨y193, hy193⟩ : ∃ y_ : List Int, y_ = (x9_3.set (x14_3 : Int).toNat t188) := ⟨_, rfl⟩
                                            replace H : (prebendref09_Post.l1 k4 l1 l2 y193 (wrap64 (x14_3 + 1))) = some (r1, r2, r3) := by first | (rw [hy193]; with_reducible exact H) | (have H2_ := (Option.bind_some _ _).symm.trans H; rw [hy193]; with_reducible exact H2_) | (have H2_ := (Option.bind_some _ _).symm.trans H; with_reducible exact H2_) | with_reducible exact H | (rw [hy193]; exact H) | exact H
                                            have Ny193 := Aside0.mk hy193
                                            clear hy193
                                            have H' := Aside0.mk H
                                            clear H
                                            obtain ⟨Ao70, co70, eo70⟩ := Kd.R_slice HO_15.out
                                            subst eo70
                                            go_wp2_with (first | ((with_reducible refine gate_callee (f := 17) rfl ?_); refine goesL_ (some 116) rfl rfl Try.func17 (by kernel_rfl) rfl #[.slice Ao70 x15_4.length co70] rfl (by (try simp only [List.map_toArray, List.map_cons, List.map_nil]); first | done | rfl | (simp only [List.length_drop, List.length_take]; rfl)) ?_; (with_reducible refine (prebendref01_Add.calls k4 _ _ x15_4 t188 t189 _ ?side1 ?side2 A38.out).mono ?_); (case side1 => repeat (first | exact (Kd.R_reads' HO_15.out).2.2 | (with_reducible refine Kd.C_alloc ?_ _) | (with_reducible refine Kd.C_drewN ?_ _) | (with_reducible refine Kd.C_drew ?_))); (case side2 => exact (Kd.R_reads' HO_15.out).2.1); rintro e w' ⟨rfl, ⟨nd, rfl⟩⟩; refine ⟨_, rfl, ?_⟩; (try (rw [drewN_self wr]; generalize hq_ : World.drewN wr _ = wr; have n0_ : Aside0 (Kd.R (Kd.int .i64) 3 wr w.heap.size (fun k_ => some k_ ≠ (.slice (some ad179) x9_3.length co28 : Value).ownBlock) (.slice Ao70 x15_4.length co70) x15_4) := ⟨by rw [← hq_]; exact (by (with_reducible repeat (first | apply Kd.R_alloc | apply Kd.R_drewN | apply Kd.R_drew)); exact HO_15.out)⟩; have n1_ : Aside0 (Kd.R (Kd.int .i64) 3 wr w.heap.size (fun k_ => some k_ ≠ (.slice Ao70 x15_4.length co70 : Value).ownBlock) (.slice (some ad179) x9_3.length co28) x9_3) := ⟨by rw [← hq_]; exact (by (with_reducible repeat (first | apply Kd.R_alloc | apply Kd.R_drewN | apply Kd.R_drew)); exact HO_9.out)⟩; have n2_ : Aside0 (Below w.heap.size w wr) := ⟨by rw [← hq_]; exact (by repeat (first | (with_reducible first | exact HB.out | apply below_alloc | apply pw_below_drewN | apply below_drew1) | exact HB.out))⟩; clear HO_15 HO_9 HB hq_; have HO_15 := n0_; have HO_9 := n1_; have HB := n2_; clear n0_ n1_ n2_)); have p69 : 0 ≤ (x14_3 : Int) := of_decide_eq_true (by first | (with_reducible assumption) | assumption); have q69 : (x14_3 : Int) < ((x9_3.length : Int) : Int) := of_decide_eq_true (by first | (with_reducible assumption) | assumption); obtain ⟨go69, co69, eo69, gb69, gl69, cl69, HG69⟩ := Kd.R_form HO_9.out (by omega); (first | cases eo69 | (injection eo69 with ea_ en_ ec_; (first | subst ea_ | (injection ea_ with ea_; subst ea_)); subst ec_; clear en_)); have GB69 := Aside0.mk gb69; have GG69 := Aside0.mk HG69; clear gb69 gl69 HG69; obtain ⟨hx69_0, hf69_0⟩ := Kd.R_celln 0 HO_9.out (x14_3 : Int) p69 q69; replace p69 := eq_true p69; replace q69 := eq_true q69; obtain ⟨hy71_, hz71_⟩ := Kd.R_celln 0 HO_9.out (x14_3 : Int) (of_decide_eq_true (by first | (with_reducible assumption) | assumption)) (of_decide_eq_true (by first | (with_reducible assumption) | assumption)); have HP71 := Kd.R_putg HO_9.out (x14_3 : Int) t188) | ((with_reducible refine gate_store (t := 3) (p := 139) rfl ?_); refine store_event (t := 3) (p := 139) (v := ?vo_w72) (w1 := (wr.setCell ⟨go69, (x14_3 : Int).toNat, none⟩ (.int .i64 t188))) ?hg ?ho ?hn ?hr ?_; (case ho => rfl); (case hg => rfl); (case hn => rfl); (case hr => first | (go_simp; done) | (go_simp; rfl)); intro w72 hw; have hg : wr.grownBy w72 (some go69) := (by rw [hw]; exact HP71.2); have hp_ : Kd.R (Kd.int .i64) 3 w72 w.heap.size (fun k_ => some k_ ≠ (.slice Ao70 x15_4.length co70 : Value).ownBlock) (.slice (some ⟨go69, 0, none⟩) x9_3.length co28) y193 := (by rw [hw, Ny193.out]; exact HP71.1); clear HP71; have n0_ := Aside0.mk (hp_); have n1_ := Aside0.mk (Kd.R_after (v := (.slice (some ⟨go69, 0, none⟩) x9_3.length co28)) (v1 := (.slice (some ⟨go69, 0, none⟩) x9_3.length co28)) (ok := (fun _ => True)) (by (with_reducible repeat (first | apply Kd.R_alloc | apply Kd.R_drewN | apply Kd.R_drew)); exact Kd.R_mono HO_15.out (fun _ hk => ⟨trivial, hk⟩)) hg (.inl rfl)); have n2_ := Aside0.mk ((by rw [hw]; exact below_set (HB.out) GB69.out : Below w.heap.size w w72)); clear HO_9; clear HO_15; clear HB; have HO_9 := n0_; have HO_15 := n1_; have HB := n2_; clear n0_ n1_ n2_; clear hg hw hp_))
                                            go_roundg k4
                                            case measure => have := HK1.out; have := HJ18.out; have := HK3.out; have := HK4.out; omega
                                            case rel => exact ⟨(y193), (wrap64 (x14_3 + 1)), (by first | rfl | (simp; done) | (simp [*]; done)), H', ⟨by have := HK1.out; have := HJ18.out; have := HK3.out; have := HK4.out; omega⟩, ⟨by (with_reducible repeat (first | apply Kd.R_alloc | apply Kd.R_drewN | apply Kd.R_drew)); exact Kd.R_mono HO_9.out (fun _ hk => trivial)⟩, ⟨by repeat (first | (with_reducible first | exact HB.out | apply below_alloc | apply pw_below_drewN | apply below_drew1) | exact HB.out)⟩⟩
                                          · rw [if_neg c68] at H
                                            exact absurd H (by simp)
                                        · rw [if_neg c67] at H
                                          exact absurd H (by simp)
                                  · rw [if_neg c39] at H
                                    have c39b0 : (t189 == 0) = false := beq_eq_false_iff_ne.mpr c39
                                    have c39b1 : (t189 != 0) = true := bne_iff_ne.mpr c39
                                    simp only [Option.some.injEq, Prod.mk.injEq] at H
                                    obtain ⟨rfl, rfl, rfl⟩ := H
                                    obtain ⟨Ao73, co73, eo73⟩ := Kd.R_slice HO_15.out
                                    subst eo73
                                    go_wp2_with (first | ((with_reducible refine gate_callee (f := 17) rfl ?_); refine goesL_ (some 116) rfl rfl Try.func17 (by kernel_rfl) rfl #[.slice Ao73 x15_4.length co73] rfl (by (try simp only [List.map_toArray, List.map_cons, List.map_nil]); first | done | rfl | (simp only [List.length_drop, List.length_take]; rfl)) ?_; (with_reducible refine (prebendref01_Add.calls k4 _ _ x15_4 t188 t189 _ ?side1 ?side2 A38.out).mono ?_); (case side1 => repeat (first | exact (Kd.R_reads' HO_15.out).2.2 | (with_reducible refine Kd.C_alloc ?_ _) | (with_reducible refine Kd.C_drewN ?_ _) | (with_reducible refine Kd.C_drew ?_))); (case side2 => exact (Kd.R_reads' HO_15.out).2.1); rintro e w' ⟨rfl, ⟨nd, rfl⟩⟩; refine ⟨_, rfl, ?_⟩))
                                    go_ret3
                                    exact ⟨_, by first | rfl | (simp [errW_none, errW_some] <;> rfl) | (simp [*, errW_none, errW_some] <;> rfl), by first | exact Kd.R_nil _ _ _ _ _ | exact Kd.N_nil _ _ _ _ _ | exact Kd.V_nil _ _ _ _ _ | exact Kd.Q_nil _ _ _ _ _ | exact Kd.S_nil _ _ _ _ _, by repeat (first | (with_reducible first | exact HB.out | apply below_alloc | apply pw_below_drewN | apply below_drew1) | exact HB.out)⟩
                        · rw [if_neg c27] at H
                          exact absurd H (by simp)
                      · rw [if_neg c26] at H
                        have c26b0 : decide (x14_3 < (x9_3.length : Int)) = false := decide_eq_false c26
                        clear c26
                        obtain ⟨y194, hy194⟩ : ∃ y_ : List (S39), y_ = (([] : List (S39))) := ⟨_, rfl⟩
                        replace H : (if y194.length + l1.length < 2932031007402 then (prebendref09_Post.l3 k3 x9_3 (y194 ++ l1) 0) else (none)) = some (r1, r2, r3) := by first | (rw [hy194]; with_reducible exact H) | (have H2_ := (Option.bind_some _ _).symm.trans H; rw [hy194]; with_reducible exact H2_) | (have H2_ := (Option.bind_some _ _).symm.trans H; with_reducible exact H2_) | with_reducible exact H | (rw [hy194]; exact H) | exact H
                        have Ny194 := Aside0.mk hy194
                        clear hy194
                        by_cases c74 : y194.length + l1.length < 2932031007402
                        · rw [if_pos c74] at H
                          have LMc74 := Aside0.mk c74
                          clear c74
                          obtain ⟨y197, hy197⟩ : ∃ y_ : List (S39), y_ = (y194 ++ l1) := ⟨_, rfl⟩
                          replace H : (prebendref09_Post.l3 k3 x9_3 y197 0) = some (r1, r2, r3) := by first | (rw [hy197]; with_reducible exact H) | (have H2_ := (Option.bind_some _ _).symm.trans H; rw [hy197]; with_reducible exact H2_) | (have H2_ := (Option.bind_some _ _).symm.trans H; with_reducible exact H2_) | with_reducible exact H | (rw [hy197]; exact H) | exact H
                          have Ny197 := Aside0.mk hy197
                          clear hy197
                          have H' := Aside0.mk H
                          clear H
                          obtain ⟨Ao75, co75, eo75⟩ := Kd.R_slice HO_9.out
                          subst eo75
                          go_wp2_with (first | ((with_reducible refine gate_dst (N := 140) rfl ?_); (try (refine gate_guard (by rfl) ?_; dsimp only)); refine Kd.R_lit k39 _ 39 ?hg (N := 140) ?hd (xs := ([] : List (S39))) (inner := []) (ok := fun _ => True) (okp := fun _ => True) ?hr ?hp (fun _ hk => hk) trivial (Below.refl _ _) (Nat.le_refl _) (by simp) ?_; (case hd => rfl); (case hg => rfl); (case hr => first | (go_simp; done) | (go_simp; rfl)); (case hp => exact (Reps.none _ _)); intro v195 w76 ho77 hb hg_ hnew_; clear hg_ hnew_; (first | rw [← Ny194.out] at ho77 | (simp only [Int.reduceToNat] at ho77; rw [← Ny194.out] at ho77)); have n0_ := Aside0.mk (Kd.R_below (by (with_reducible repeat (first | apply Kd.R_alloc | apply Kd.R_drewN | apply Kd.R_drew)); exact HO_9.out) hb); have n1_ := Aside0.mk (Kd.R_lower ho77 (below_size (by repeat (first | (with_reducible first | exact HB.out | apply below_alloc | apply pw_below_drewN | apply below_drew1) | exact HB.out)))); have n2_ := Aside0.mk (below_step (by repeat (first | (with_reducible first | exact HB.out | apply below_alloc | apply pw_below_drewN | apply below_drew1) | exact HB.out)) hb); clear HO_9; clear HB; have HO_9 := n0_; have HO196 := n1_; have HB := n2_; clear n0_ n1_ n2_; clear hb ho77) | ((with_reducible refine gate_builtin (b := .append) (xs := #[.tmp 140, .tmp 141]) rfl ?_); (try (refine gate_guard (by rfl) ?_; dsimp only)); at_builtin; refine Kd.R_append_rows k39 (w0 := w) w.heap.size rfl (.tmp 140) (.tmp 141) 22 39 (.agg #[(.int .i64 0), (.int .i64 0), (.int .i64 0), (.int .i64 0), (.int .i64 0), (.int .i64 0)]) 48 rfl Try.underlying22 info39 rfl (by decide) (by omega) v195 y194 l1 _ _ _ (fun _ => True) (fun _ => False) rfl rfl ?aO ?aR (fun _ _ h => h) (fun _ h => h.elim) ?aF ?aB ?aS ?aL ?_; (case aR => repeat (first | exact (Kd.C_below HR1.out HB.out) | (with_reducible refine Kd.C_alloc ?_ _) | (with_reducible refine Kd.C_drewN ?_ _) | (with_reducible refine Kd.C_drew ?_))); (case aB => exact (by repeat (first | (with_reducible first | exact HB.out | apply below_alloc | apply pw_below_drewN | apply below_drew1) | exact HB.out))); (case aF => exact (fun _ _ => trivial)); (case aO => exact (by (with_reducible repeat (first | apply Kd.R_alloc | apply Kd.R_drewN | apply Kd.R_drew)); exact HO196.out)); (case aS => exact (below_size (by repeat (first | (with_reducible first | exact HB.out | apply below_alloc | apply pw_below_drewN | apply below_drew1) | exact HB.out)))); (case aL => have := LMc74.out; omega); intro v198 w78 ho hb hg hat; rw [← Ny197.out] at ho; have n0_ := Aside0.mk (Kd.R_over' (by (with_reducible repeat (first | apply Kd.R_alloc | apply Kd.R_drewN | apply Kd.R_drew)); exact HO_9.out) (Kd.R_typed (by (with_reducible repeat (first | apply Kd.R_alloc | apply Kd.R_drewN | apply Kd.R_drew)); exact HO196.out)) (by decide) hg); have n1_ := Aside0.mk (hb); have n2_ := Aside0.mk (ho); clear HO_9; clear HB; clear HO196; have HO_9 := n0_; have HB := n1_; have HO199 := n2_; clear n0_ n1_ n2_; clear ho hb hg hat))
                          go_loopg [20] k3 (fun kq v20 w' => ∃ (x19_4 : List (S39)) (x20_4 : Int), v20 = .int .i64 x20_4 ∧ Aside0 (prebendref09_Post.l3 kq x9_3 x19_4 x20_4 = some (r1, r2, r3)) ∧ Aside0 (kq ≤ k3) ∧ Aside0 (Kd.R (Kd.int .i64) 3 w' w.heap.size (fun _ => True) (.slice Ao75 x9_3.length co75) x9_3) ∧ Aside0 (Kd.R k39 39 w' w.heap.size (fun _ => True) v198 x19_4) ∧ Aside0 (Below w.heap.size w w'))
                          case atStart => exact ⟨(y197), (0), (by first | rfl | (simp; done) | (simp [*]; done)), H', ⟨Nat.le_refl _⟩, ⟨by (with_reducible repeat (first | apply Kd.R_alloc | apply Kd.R_drewN | apply Kd.R_drew)); exact HO_9.out⟩, ⟨by (with_reducible repeat (first | apply Kd.R_alloc | apply Kd.R_drewN | apply Kd.R_drew)); exact HO199.out⟩, ⟨by repeat (first | (with_reducible first | exact HB.out | apply below_alloc | apply pw_below_drewN | apply below_drew1) | exact HB.out)⟩⟩
                          case round =>
                            clear H'
                            try clear c1
                            try clear p1
                            try clear q1
                            try clear hx1
                            try clear c2
                            try clear p2
                            try clear c3
                            try clear c4
                            try clear p4
                            try clear q4
                            try clear hx4
                            try clear hf4
                            try clear c5
                            try clear p5
                            try clear q5
                            try clear hx5
                            try clear hf5
                            try clear c6
                            try clear p6
                            try clear q6
                            try clear hx6
                            try clear hf6
                            try clear c7
                            try clear c8
                            try clear c8b0
                            try clear c10
                            try clear c10b0
                            try clear c11
                            try clear c11b0
                            try clear c13
                            try clear c14
                            try clear c14b0
                            try clear c15
                            try clear c15b0
                            try clear c16
                            try clear c16b0
                            try clear c16b1
                            try clear c17
                            try clear p17
                            try clear q17
                            try clear hx17
                            try clear p18
                            try clear q18
                            try clear hx18
                            try clear c20
                            try clear c20b0
                            try clear c20b1
                            try clear c21
                            try clear c23
                            try clear c23b0
                            try clear c23b1
                            try clear c24
                            try clear c24b0
                            try clear c24b1
                            try clear c26
                            try clear c26b0
                            try clear c27
                            try clear c27b0
                            try clear c31
                            try clear c31b0
                            try clear c32
                            try clear c32b0
                            try clear c33
                            try clear c33b0
                            try clear c33b1
                            try clear c34
                            try clear c36
                            try clear c36b0
                            try clear c36b1
                            try clear c39
                            try clear c39b0
                            try clear c39b1
                            try clear c40
                            try clear c40b0
                            try clear c40b1
                            try clear c41
                            try clear c41b0
                            try clear c43
                            try clear c43b0
                            try clear c44
                            try clear c44b0
                            try clear c46
                            try clear c46b0
                            try clear c47
                            try clear c47b0
                            try clear p48
                            try clear q48
                            try clear hx48
                            try clear hf48
                            try clear c52
                            try clear c52b0
                            try clear c53
                            try clear c53b0
                            try clear p54
                            try clear q54
                            try clear hx54
                            try clear hf54
                            try clear c58
                            try clear c58b0
                            try clear c59
                            try clear c59b0
                            try clear c61
                            try clear c61b0
                            try clear c62
                            try clear c62b0
                            try clear p63
                            try clear q63
                            try clear hx63
                            try clear hf63
                            try clear p64
                            try clear c67
                            try clear c67b0
                            try clear c68
                            try clear c68b0
                            try clear p69
                            try clear q69
                            try clear hx69
                            try clear hf69
                            try clear c74
                            try clear hx170_0
                            try clear hx170_1
                            try clear hx171_0
                            try clear hx171_1
                            try clear hx172_0
                            try clear hx172_1
                            try clear hx173_0
                            try clear hx173_1
                            try clear hx179_0
                            try clear hx183_0
                            try clear hx183_1
                            try clear hx184_0
                            try clear hx184_1
                            try clear hx48_0
                            try clear hx54_0
                            try clear hx63_0
                            try clear hx69_0
                            try clear p1
                            try clear p17
                            try clear p170
                            try clear p171
                            try clear p172
                            try clear p173
                            try clear p179
                            try clear p183
                            try clear p184
                            try clear p2
                            try clear p48
                            try clear p54
                            try clear p6
                            try clear p63
                            try clear p69
                            try clear q1
                            try clear q17
                            try clear q170
                            try clear q171
                            try clear q172
                            try clear q173
                            try clear q179
                            try clear q183
                            try clear q184
                            try clear q48
                            try clear q54
                            try clear q63
                            try clear q69
                            obtain ⟨x19_4, x20_4, rfl, HA, HK4, HO_9, HO_19, HB⟩ := hrel
                            cases gk with
                            | zero => exact absurd HA.out (by simp [prebendref09_Post.l3])
                            | succ k4 =>
                              have H := HA.out
                              clear HA
                              simp only [prebendref09_Post.l3] at H
                              by_cases c79 : x20_4 < (x19_4.length : Int)
                              · rw [if_pos c79] at H
                                have c79b0 : decide (x20_4 < (x19_4.length : Int)) = true := decide_eq_true c79
                                clear c79
                                obtain ⟨ji80, hji80⟩ : ∃ j_ : Int, (wrap64 (1 + (wrap64 (3 * x20_4)))) = j_ := ⟨_, rfl⟩
                                replace H : (if 0 ≤ (ji80) then (if (ji80) < (x9_3.length : Int) then (if 0 ≤ (wrap64 (2 + (wrap64 (3 * x20_4)))) then (if (wrap64 (2 + (wrap64 (3 * x20_4)))) < (x9_3.length : Int) then (if 0 ≤ (wrap64 (3 + (wrap64 (3 * x20_4)))) then (if (wrap64 (3 + (wrap64 (3 * x20_4)))) < (x9_3.length : Int) then (if 0 ≤ x20_4 then ((some (x19_4.set (x20_4 : Int).toNat (⟨(rd_T39 x19_4 x20_4).f0, (rd_T39 x19_4 x20_4).f1, (rd_T39 x19_4 x20_4).f2, rd x9_3 (ji80), (rd_T39 x19_4 x20_4).f4, (rd_T39 x19_4 x20_4).f5⟩ : S39) : List (S39))).bind fun y203 => ((some (y203.set (x20_4 : Int).toNat (⟨(rd_T39 y203 x20_4).f0, (rd_T39 y203 x20_4).f1, (rd_T39 y203 x20_4).f2, (rd_T39 y203 x20_4).f3, rd x9_3 (wrap64 (2 + (wrap64 (3 * x20_4)))), (rd_T39 y203 x20_4).f5⟩ : S39) : List (S39))).bind fun y204 => (prebendref09_Post.l3 k4 x9_3 (y204.set (x20_4 : Int).toNat (⟨(rd_T39 y204 x20_4).f0, (rd_T39 y204 x20_4).f1, (rd_T39 y204 x20_4).f2, (rd_T39 y204 x20_4).f3, (rd_T39 y204 x20_4).f4, rd x9_3 (wrap64 (3 + (wrap64 (3 * x20_4))))⟩ : S39)) (wrap64 (x20_4 + 1))))) else (none)) else (none)) else (none)) else (none)) else (none)) else (none)) else (none)) = some (r1, r2, r3) := by first | (rw [hji80] at H; exact H) | (simp only [hji80] at H ⊢; exact H)
                                have hji80w : (IntKind.i64.wrap (1 + (wrap64 (3 * x20_4)))) = ji80 := (i64_w _).trans hji80
                                by_cases c81 : 0 ≤ (ji80)
                                · rw [if_pos c81] at H
                                  have c81b0 : decide (0 ≤ (ji80)) = true := decide_eq_true c81
                                  clear c81
                                  by_cases c82 : (ji80) < (x9_3.length : Int)
                                  · rw [if_pos c82] at H
                                    have c82b0 : decide ((ji80) < (x9_3.length : Int)) = true := decide_eq_true c82
                                    clear c82
                                    obtain ⟨ji83, hji83⟩ : ∃ j_ : Int, (wrap64 (2 + (wrap64 (3 * x20_4)))) = j_ := ⟨_, rfl⟩
                                    replace H : (if 0 ≤ (ji83) then (if (ji83) < (x9_3.length : Int) then (if 0 ≤ (wrap64 (3 + (wrap64 (3 * x20_4)))) then (if (wrap64 (3 + (wrap64 (3 * x20_4)))) < (x9_3.length : Int) then (if 0 ≤ x20_4 then ((some (x19_4.set (x20_4 : Int).toNat (⟨(rd_T39 x19_4 x20_4).f0, (rd_T39 x19_4 x20_4).f1, (rd_T39 x19_4 x20_4).f2, rd x9_3 (ji80), (rd_T39 x19_4 x20_4).f4, (rd_T39 x19_4 x20_4).f5⟩ : S39) : List (S39))).bind fun y203 => ((some (y203.set (x20_4 : Int).toNat (⟨(rd_T39 y203 x20_4).f0, (rd_T39 y203 x20_4).f1, (rd_T39 y203 x20_4).f2, (rd_T39 y203 x20_4).f3, rd x9_3 (ji83), (rd_T39 y203 x20_4).f5⟩ : S39) : List (S39))).bind fun y204 => (prebendref09_Post.l3 k4 x9_3 (y204.set (x20_4 : Int).toNat (⟨(rd_T39 y204 x20_4).f0, (rd_T39 y204 x20_4).f1, (rd_T39 y204 x20_4).f2, (rd_T39 y204 x20_4).f3, (rd_T39 y204 x20_4).f4, rd x9_3 (wrap64 (3 + (wrap64 (3 * x20_4))))⟩ : S39)) (wrap64 (x20_4 + 1))))) else (none)) else (none)) else (none)) else (none)) else (none)) = some (r1, r2, r3) := by first | (rw [hji83] at H; exact H) | (simp only [hji83] at H ⊢; exact H)
                                    have hji83w : (IntKind.i64.wrap (2 + (wrap64 (3 * x20_4)))) = ji83 := (i64_w _).trans hji83
                                    (try simp only [hji83] at hji80)
                                    (try simp only [hji83w] at hji80w)
                                    by_cases c84 : 0 ≤ (ji83)
                                    · rw [if_pos c84] at H
                                      have c84b0 : decide (0 ≤ (ji83)) = true := decide_eq_true c84
                                      clear c84
                                      by_cases c85 : (ji83) < (x9_3.length : Int)
                                      · rw [if_pos c85] at H
                                        have c85b0 : decide ((ji83) < (x9_3.length : Int)) = true := decide_eq_true c85
                                        clear c85
                                        obtain ⟨ji86, hji86⟩ : ∃ j_ : Int, (wrap64 (3 + (wrap64 (3 * x20_4)))) = j_ := ⟨_, rfl⟩
                                        replace H : (if 0 ≤ (ji86) then (if (ji86) < (x9_3.length : Int) then (if 0 ≤ x20_4 then ((some (x19_4.set (x20_4 : Int).toNat (⟨(rd_T39 x19_4 x20_4).f0, (rd_T39 x19_4 x20_4).f1, (rd_T39 x19_4 x20_4).f2, rd x9_3 (ji80), (rd_T39 x19_4 x20_4).f4, (rd_T39 x19_4 x20_4).f5⟩ : S39) : List (S39))).bind fun y203 => ((some (y203.set (x20_4 : Int).toNat (⟨(rd_T39 y203 x20_4).f0, (rd_T39 y203 x20_4).f1, (rd_T39 y203 x20_4).f2, (rd_T39 y203 x20_4).f3, rd x9_3 (ji83), (rd_T39 y203 x20_4).f5⟩ : S39) : List (S39))).bind fun y204 => (prebendref09_Post.l3 k4 x9_3 (y204.set (x20_4 : Int).toNat (⟨(rd_T39 y204 x20_4).f0, (rd_T39 y204 x20_4).f1, (rd_T39 y204 x20_4).f2, (rd_T39 y204 x20_4).f3, (rd_T39 y204 x20_4).f4, rd x9_3 (ji86)⟩ : S39)) (wrap64 (x20_4 + 1))))) else (none)) else (none)) else (none)) = some (r1, r2, r3) := by first | (rw [hji86] at H; exact H) | (simp only [hji86] at H ⊢; exact H)
                                        have hji86w : (IntKind.i64.wrap (3 + (wrap64 (3 * x20_4)))) = ji86 := (i64_w _).trans hji86
                                        (try simp only [hji86] at hji80)
                                        (try simp only [hji86w] at hji80w)
                                        (try simp only [hji86] at hji83)
                                        (try simp only [hji86w] at hji83w)
                                        by_cases c87 : 0 ≤ (ji86)
                                        · rw [if_pos c87] at H
                                          have c87b0 : decide (0 ≤ (ji86)) = true := decide_eq_true c87
                                          clear c87
                                          by_cases c88 : (ji86) < (x9_3.length : Int)
                                          · rw [if_pos c88] at H
                                            have c88b0 : decide ((ji86) < (x9_3.length : Int)) = true := decide_eq_true c88
                                            clear c88
                                            by_cases c89 : 0 ≤ x20_4
                                            · rw [if_pos c89] at H
                                              have c89b0 : decide (0 ≤ x20_4) = true := decide_eq_true c89
                                              clear c89
                                              obtain ⟨y203, hy203⟩ : ∃ y_ : List (S39), y_ = (x19_4.set (x20_4 : Int).toNat (⟨(rd_T39 x19_4 x20_4).f0, (rd_T39 x19_4 x20_4).f1, (rd_T39 x19_4 x20_4).f2, rd x9_3 (ji80), (rd_T39 x19_4 x20_4).f4, (rd_T39 x19_4 x20_4).f5⟩ : S39)) := ⟨_, rfl⟩
                                              replace H : ((some (y203.set (x20_4 : Int).toNat (⟨(rd_T39 y203 x20_4).f0, (rd_T39 y203 x20_4).f1, (rd_T39 y203 x20_4).f2, (rd_T39 y203 x20_4).f3, rd x9_3 (ji83), (rd_T39 y203 x20_4).f5⟩ : S39) : List (S39))).bind fun y204 => (prebendref09_Post.l3 k4 x9_3 (y204.set (x20_4 : Int).toNat (⟨(rd_T39 y204 x20_4).f0, (rd_T39 y204 x20_4).f1, (rd_T39 y204 x20_4).f2, (rd_T39 y204 x20_4).f3, (rd_T39 y204 x20_4).f4, rd x9_3 (ji86)⟩ : S39)) (wrap64 (x20_4 + 1)))) = some (r1, r2, r3) := by first | (rw [hy203]; with_reducible exact H) | (have H2_ := (Option.bind_some _ _).symm.trans H; rw [hy203]; with_reducible exact H2_) | (have H2_ := (Option.bind_some _ _).symm.trans H; with_reducible exact H2_) | with_reducible exact H | (rw [hy203]; exact H) | exact H
                                              have Ny203 := Aside0.mk hy203
                                              clear hy203
                                              obtain ⟨y204, hy204⟩ : ∃ y_ : List (S39), y_ = (y203.set (x20_4 : Int).toNat (⟨(rd_T39 y203 x20_4).f0, (rd_T39 y203 x20_4).f1, (rd_T39 y203 x20_4).f2, (rd_T39 y203 x20_4).f3, rd x9_3 (ji83), (rd_T39 y203 x20_4).f5⟩ : S39)) := ⟨_, rfl⟩
                                              replace H : (prebendref09_Post.l3 k4 x9_3 (y204.set (x20_4 : Int).toNat (⟨(rd_T39 y204 x20_4).f0, (rd_T39 y204 x20_4).f1, (rd_T39 y204 x20_4).f2, (rd_T39 y204 x20_4).f3, (rd_T39 y204 x20_4).f4, rd x9_3 (ji86)⟩ : S39)) (wrap64 (x20_4 + 1))) = some (r1, r2, r3) := by first | (rw [hy204]; with_reducible exact H) | (have H2_ := (Option.bind_some _ _).symm.trans H; rw [hy204]; with_reducible exact H2_) | (have H2_ := (Option.bind_some _ _).symm.trans H; with_reducible exact H2_) | with_reducible exact H | (rw [hy204]; exact H) | exact H
                                              have Ny204 := Aside0.mk hy204
                                              clear hy204
                                              obtain ⟨y205, hy205⟩ : ∃ y_ : List (S39), y_ = (y204.set (x20_4 : Int).toNat (⟨(rd_T39 y204 x20_4).f0, (rd_T39 y204 x20_4).f1, (rd_T39 y204 x20_4).f2, (rd_T39 y204 x20_4).f3, (rd_T39 y204 x20_4).f4, rd x9_3 (ji86)⟩ : S39)) := ⟨_, rfl⟩
                                              replace H : (prebendref09_Post.l3 k4 x9_3 y205 (wrap64 (x20_4 + 1))) = some (r1, r2, r3) := by first | (rw [hy205]; with_reducible exact H) | (have H2_ := (Option.bind_some _ _).symm.trans H; rw [hy205]; with_reducible exact H2_) | (have H2_ := (Option.bind_some _ _).symm.trans H; with_reducible exact H2_) | with_reducible exact H | (rw [hy205]; exact H) | exact H
                                              have Ny205 := Aside0.mk hy205
                                              clear hy205
                                              have H' := Aside0.mk H
                                              clear H
                                              obtain ⟨Ao93, co93, eo93⟩ := Kd.R_slice HO_19.out
                                              subst eo93
                                              try go_wp2
                                              have n0_ := Aside0.mk (Kd.R_drew HO_9.out)
                                              have n1_ := Aside0.mk (Kd.R_drew HO_19.out)
                                              have n2_ := Aside0.mk (below_drew1 HB.out)
                                              clear HO_9
                                              clear HO_19
                                              clear HB
                                              have HO_9 := n0_
                                              have HO_19 := n1_
                                              have HB := n2_
                                              clear n0_ n1_ n2_
                                              have p200 : 0 ≤ ((ji80) : Int) := of_decide_eq_true (by first | (with_reducible assumption) | assumption)
                                              have q200 : (ji80) < (x9_3.length : Int) := of_decide_eq_true (by first | (with_reducible assumption) | assumption)
                                              obtain ⟨ad200, e200, hx200_0⟩ := Kd.at_int (Kd.R_reads' HO_9.out).2.2 (ji80) p200 q200
                                              cases e200
                                              replace p200 := eq_true p200
                                              replace q200 := eq_true q200
                                              have p201 : 0 ≤ ((ji83) : Int) := of_decide_eq_true (by first | (with_reducible assumption) | assumption)
                                              have q201 : (ji83) < (x9_3.length : Int) := of_decide_eq_true (by first | (with_reducible assumption) | assumption)
                                              obtain ⟨ad201, e201, hx201_0⟩ := Kd.at_int (Kd.R_reads' HO_9.out).2.2 (ji83) p201 q201
                                              obtain rfl : ad200 = ad201 := (by injection e201)
                                              replace p201 := eq_true p201
                                              replace q201 := eq_true q201
                                              have p202 : 0 ≤ ((ji86) : Int) := of_decide_eq_true (by first | (with_reducible assumption) | assumption)
                                              have q202 : (ji86) < (x9_3.length : Int) := of_decide_eq_true (by first | (with_reducible assumption) | assumption)
                                              obtain ⟨ad202, e202, hx202_0⟩ := Kd.at_int (Kd.R_reads' HO_9.out).2.2 (ji86) p202 q202
                                              obtain rfl : ad200 = ad202 := (by injection e202)
                                              replace p202 := eq_true p202
                                              replace q202 := eq_true q202
                                              have p90 : 0 ≤ (x20_4 : Int) := of_decide_eq_true (by first | (with_reducible assumption) | assumption)
                                              have q90 : (x20_4 : Int) < ((x19_4.length : Int) : Int) := of_decide_eq_true (by first | (with_reducible assumption) | assumption)
                                              obtain ⟨go90, co90, eo90, gb90, gl90, cl90, HG90⟩ := Kd.R_form HO_19.out (by omega)
                                              (first | cases eo90 | (injection eo90 with ea_ en_ ec_; (first | subst ea_ | (injection ea_ with ea_; subst ea_)); subst ec_; clear en_))
                                              have GB90 := Aside0.mk gb90
                                              have GG90 := Aside0.mk HG90
                                              clear gb90 gl90 HG90
                                              obtain ⟨ce90, hcl90, hM90, hcc90, hfr90⟩ := Kd.R_elem HO_19.out z39 (x20_4 : Int) p90 q90
                                              obtain rfl := k39_openM hM90
                                              have hx90_0 : World.cell? _ ⟨go90, (x20_4 : Int).toNat * 6, none⟩ = some (.int .i64 ((rd_T39 x19_4 x20_4).f0)) := hcc90 0 _ rfl
                                              have hx90_1 : World.cell? _ ⟨go90, (x20_4 : Int).toNat * 6 + 1, none⟩ = some (.int .i64 ((rd_T39 x19_4 x20_4).f1)) := hcc90 1 _ rfl
                                              have hx90_2 : World.cell? _ ⟨go90, (x20_4 : Int).toNat * 6 + 2, none⟩ = some (.int .i64 ((rd_T39 x19_4 x20_4).f2)) := hcc90 2 _ rfl
                                              have hx90_3 : World.cell? _ ⟨go90, (x20_4 : Int).toNat * 6 + 3, none⟩ = some (.int .i64 ((rd_T39 x19_4 x20_4).f3)) := hcc90 3 _ rfl
                                              have hx90_4 : World.cell? _ ⟨go90, (x20_4 : Int).toNat * 6 + 4, none⟩ = some (.int .i64 ((rd_T39 x19_4 x20_4).f4)) := hcc90 4 _ rfl
                                              have hx90_5 : World.cell? _ ⟨go90, (x20_4 : Int).toNat * 6 + 5, none⟩ = some (.int .i64 ((rd_T39 x19_4 x20_4).f5)) := hcc90 5 _ rfl
                                              have hf90_0 : World.frozen? _ ⟨go90, (x20_4 : Int).toNat * 6, none⟩ = false := hfr90 0
                                              have hf90_1 : World.frozen? _ ⟨go90, (x20_4 : Int).toNat * 6 + 1, none⟩ = false := hfr90 1
                                              have hf90_2 : World.frozen? _ ⟨go90, (x20_4 : Int).toNat * 6 + 2, none⟩ = false := hfr90 2
                                              have hf90_3 : World.frozen? _ ⟨go90, (x20_4 : Int).toNat * 6 + 3, none⟩ = false := hfr90 3
                                              have hf90_4 : World.frozen? _ ⟨go90, (x20_4 : Int).toNat * 6 + 4, none⟩ = false := hfr90 4
                                              have hf90_5 : World.frozen? _ ⟨go90, (x20_4 : Int).toNat * 6 + 5, none⟩ = false := hfr90 5
                                              clear hcl90 hcc90 hfr90 hM90
                                              replace p90 := eq_true p90
                                              replace q90 := eq_true q90
                                              obtain ⟨ce95, hcl95, hM95, hcc95, hfr95⟩ := Kd.R_elem HO_19.out z39 (x20_4 : Int) (of_decide_eq_true (by first | (with_reducible assumption) | assumption)) (by have h_ : (x20_4 : Int) < ((x19_4.length : Int) : Int) := of_decide_eq_true (by first | (with_reducible assumption) | assumption); first | exact h_ | (have e_ := (Kd.R_reads' HO_19.out).1; omega) | simpa using h_)
                                              obtain rfl := k39_openM hM95
                                              have HP95 := (Kd.R_seg HO_19.out (x20_4 : Int) (of_decide_eq_true (by first | (with_reducible assumption) | assumption)) (by have h_ : (x20_4 : Int) < ((x19_4.length : Int) : Int) := of_decide_eq_true (by first | (with_reducible assumption) | assumption); first | exact h_ | (have e_ := (Kd.R_reads' HO_19.out).1; omega) | simpa using h_) (seg := [.int .i64 (rd x9_3 (ji80))]) (j := 3) hcl95 hcc95 (show 4 ≤ 6 from by decide) (x' := (⟨(rd_T39 x19_4 x20_4).f0, (rd_T39 x19_4 x20_4).f1, (rd_T39 x19_4 x20_4).f2, rd x9_3 (ji80), (rd_T39 x19_4 x20_4).f4, (rd_T39 x19_4 x20_4).f5⟩ : S39)) (k39_mkM _ _ _ (⟨(rd_T39 x19_4 x20_4).f0, (rd_T39 x19_4 x20_4).f1, (rd_T39 x19_4 x20_4).f2, rd x9_3 (ji80), (rd_T39 x19_4 x20_4).f4, (rd_T39 x19_4 x20_4).f5⟩ : S39) ) (fun _ hk => hk)).1
                                              rw [← Ny203.out] at HP95
                                              have HQ95 := Aside0.mk HP95
                                              clear hcl95 hcc95 hfr95 hM95 HP95
                                              have p91 : 0 ≤ (x20_4 : Int) := of_decide_eq_true (by first | (with_reducible assumption) | assumption)
                                              have q91 : (x20_4 : Int) < ((x19_4.length : Int) : Int) := of_decide_eq_true (by first | (with_reducible assumption) | assumption)
                                              replace p91 := eq_true p91
                                              replace q91 := eq_true q91
                                              obtain ⟨ce96, hcl96, hM96, hcc96, hfr96⟩ := Kd.R_elem HQ95.out z39 (x20_4 : Int) (of_decide_eq_true (by first | (with_reducible assumption) | assumption)) (by have h_ : (x20_4 : Int) < ((x19_4.length : Int) : Int) := of_decide_eq_true (by first | (with_reducible assumption) | assumption); first | exact h_ | (have e_ := (Kd.R_reads' HO_19.out).1; omega) | simpa using h_)
                                              obtain rfl := k39_openM hM96
                                              have HP96 := (Kd.R_seg HQ95.out (x20_4 : Int) (of_decide_eq_true (by first | (with_reducible assumption) | assumption)) (by have h_ : (x20_4 : Int) < ((x19_4.length : Int) : Int) := of_decide_eq_true (by first | (with_reducible assumption) | assumption); first | exact h_ | (have e_ := (Kd.R_reads' HO_19.out).1; omega) | simpa using h_) (seg := [.int .i64 (rd x9_3 (ji83))]) (j := 4) hcl96 hcc96 (show 5 ≤ 6 from by decide) (x' := (⟨(rd_T39 y203 x20_4).f0, (rd_T39 y203 x20_4).f1, (rd_T39 y203 x20_4).f2, (rd_T39 y203 x20_4).f3, rd x9_3 (ji83), (rd_T39 y203 x20_4).f5⟩ : S39)) (k39_mkM _ _ _ (⟨(rd_T39 y203 x20_4).f0, (rd_T39 y203 x20_4).f1, (rd_T39 y203 x20_4).f2, (rd_T39 y203 x20_4).f3, rd x9_3 (ji83), (rd_T39 y203 x20_4).f5⟩ : S39) ) (fun _ hk => hk)).1
                                              rw [← Ny204.out] at HP96
                                              have HQ96 := Aside0.mk HP96
                                              clear hcl96 hcc96 hfr96 hM96 HP96
                                              have p92 : 0 ≤ (x20_4 : Int) := of_decide_eq_true (by first | (with_reducible assumption) | assumption)
                                              have q92 : (x20_4 : Int) < ((x19_4.length : Int) : Int) := of_decide_eq_true (by first | (with_reducible assumption) | assumption)
                                              replace p92 := eq_true p92
                                              replace q92 := eq_true q92
                                              obtain ⟨ce97, hcl97, hM97, hcc97, hfr97⟩ := Kd.R_elem HQ96.out z39 (x20_4 : Int) (of_decide_eq_true (by first | (with_reducible assumption) | assumption)) (by have h_ : (x20_4 : Int) < ((x19_4.length : Int) : Int) := of_decide_eq_true (by first | (with_reducible assumption) | assumption); first | exact h_ | (have e_ := (Kd.R_reads' HO_19.out).1; omega) | simpa using h_)
                                              obtain rfl := k39_openM hM97
                                              have HP97 := (Kd.R_seg HQ96.out (x20_4 : Int) (of_decide_eq_true (by first | (with_reducible assumption) | assumption)) (by have h_ : (x20_4 : Int) < ((x19_4.length : Int) : Int) := of_decide_eq_true (by first | (with_reducible assumption) | assumption); first | exact h_ | (have e_ := (Kd.R_reads' HO_19.out).1; omega) | simpa using h_) (seg := [.int .i64 (rd x9_3 (ji86))]) (j := 5) hcl97 hcc97 (show 6 ≤ 6 from by decide) (x' := (⟨(rd_T39 y204 x20_4).f0, (rd_T39 y204 x20_4).f1, (rd_T39 y204 x20_4).f2, (rd_T39 y204 x20_4).f3, (rd_T39 y204 x20_4).f4, rd x9_3 (ji86)⟩ : S39)) (k39_mkM _ _ _ (⟨(rd_T39 y204 x20_4).f0, (rd_T39 y204 x20_4).f1, (rd_T39 y204 x20_4).f2, (rd_T39 y204 x20_4).f3, (rd_T39 y204 x20_4).f4, rd x9_3 (ji86)⟩ : S39) ) (fun _ hk => hk)).1
                                              rw [← Ny205.out] at HP97
                                              have HQ97 := Aside0.mk HP97
                                              clear hcl97 hcc97 hfr97 hM97 HP97
                                              refine start_ (n := 33) (S := fun w' => w'.cell? (ad200.add ((ji80)).toNat) = some (.int .i64 (rd x9_3 (ji80))) ∧ w'.cell? (ad200.add ((ji83)).toNat) = some (.int .i64 (rd x9_3 (ji83))) ∧ w'.cell? (ad200.add ((ji86)).toNat) = some (.int .i64 (rd x9_3 (ji86)))) (ds := [26, 29, 32]) #[false, false, false, false, false, false, false, false, false, false, false, false, false, false, false, false, false, false, false, false, false, false, false, false, false, false, false, false, false, false, false, false, false] (by kernel_rfl) rfl rfl ⟨hx200_0, hx201_0, hx202_0⟩ (fun hHeld => ?_); refine with_tabW prebendref09_Post.tab38 prebendref09_Post.bits38 (fun HT_ HW_ => ?_)
                                              generalize wr.drew = w94 at HO_9 HO_19 HB GG90 HQ95 HQ96 HQ97 hf90_0 hf90_1 hf90_2 hf90_3 hf90_4 hf90_5 hx200_0 hx201_0 hx202_0 hx90_0 hx90_1 hx90_2 hx90_3 hx90_4 hx90_5 hHeld ⊢
                                              refine pure_ (i := 0) (N := some 149) (v := ?_) (a' := ?_) #[true, false, false, false, false, false, false, false, false, false, false, false, false, false, false, false, false, false, false, false, false, false, false, false, false, false, false, false, false, false, false, false, false] rfl rfl (any_of HT_.out (by kernel_rfl)) (fun _ _ _ h => h) (Or.inl ⟨by rfl, ?_⟩) ?_ ?_
                                              rotate_left
                                              · intro w'
                                                go_simp
                                                with_reducible rfl
                                              rotate_left
                                              · simp only [Act.put, List.setIfInBounds_toArray, List.set_cons_zero, List.set_cons_succ, i64_w, i32_w]
                                                rfl
                                              refine pure_ (i := 1) (N := some 150) (v := ?_) (a' := ?_) #[true, true, false, false, false, false, false, false, false, false, false, false, false, false, false, false, false, false, false, false, false, false, false, false, false, false, false, false, false, false, false, false, false] rfl rfl (any_of HT_.out (by kernel_rfl)) (fun _ _ _ h => h) (Or.inl ⟨by rfl, ?_⟩) ?_ ?_
                                              rotate_left
                                              · intro w'
                                                go_simp
                                                with_reducible rfl
                                              rotate_left
                                              · simp only [Act.put, List.setIfInBounds_toArray, List.set_cons_zero, List.set_cons_succ, i64_w, i32_w]
                                                rfl
                                              refine pure_ (i := 2) (N := some 151) (v := ?_) (a' := ?_) #[true, true, true, false, false, false, false, false, false, false, false, false, false, false, false, false, false, false, false, false, false, false, false, false, false, false, false, false, false, false, false, false, false] rfl rfl (any_of HT_.out (by kernel_rfl)) (fun _ _ _ h => h) (Or.inl ⟨by rfl, ?_⟩) ?_ ?_
                                              rotate_left
                                              · intro w'
                                                go_simp
                                                with_reducible rfl
                                              rotate_left
                                              · simp only [Act.put, List.setIfInBounds_toArray, List.set_cons_zero, List.set_cons_succ, i64_w, i32_w]
                                                rfl
                                              refine pure_ (i := 3) (N := some 152) (v := ?_) (a' := ?_) #[true, true, true, true, false, false, false, false, false, false, false, false, false, false, false, false, false, false, false, false, false, false, false, false, false, false, false, false, false, false, false, false, false] rfl rfl (any_of HT_.out (by kernel_rfl)) (fun _ _ _ h => h) (Or.inl ⟨by rfl, ?_⟩) ?_ ?_
                                              rotate_left
                                              · intro w'
                                                go_simp
                                                with_reducible rfl
                                              rotate_left
                                              · simp only [Act.put, List.setIfInBounds_toArray, List.set_cons_zero, List.set_cons_succ, i64_w, i32_w]
                                                rfl
                                              refine pure_ (i := 4) (N := some 153) (v := ?_) (a' := ?_) #[true, true, true, true, true, false, false, false, false, false, false, false, false, false, false, false, false, false, false, false, false, false, false, false, false, false, false, false, false, false, false, false, false] rfl rfl (any_of HT_.out (by kernel_rfl)) (fun _ _ _ h => h) (Or.inl ⟨by rfl, ?_⟩) ?_ ?_
                                              rotate_left
                                              · intro w'
                                                go_simp
                                                with_reducible rfl
                                              rotate_left
                                              · simp only [Act.put, List.setIfInBounds_toArray, List.set_cons_zero, List.set_cons_succ, i64_w, i32_w]
                                                rfl
                                              refine pure_ (i := 5) (N := some 154) (v := ?_) (a' := ?_) #[true, true, true, true, true, true, false, false, false, false, false, false, false, false, false, false, false, false, false, false, false, false, false, false, false, false, false, false, false, false, false, false, false] rfl rfl (any_of HT_.out (by kernel_rfl)) (fun _ _ _ h => h) (Or.inl ⟨by rfl, ?_⟩) ?_ ?_
                                              rotate_left
                                              · intro w'
                                                go_simp
                                                with_reducible rfl
                                              rotate_left
                                              · simp only [Act.put, List.setIfInBounds_toArray, List.set_cons_zero, List.set_cons_succ, i64_w, i32_w]
                                                rfl
                                              refine pure_ (i := 6) (N := some 155) (v := ?_) (a' := ?_) #[true, true, true, true, true, true, true, false, false, false, false, false, false, false, false, false, false, false, false, false, false, false, false, false, false, false, false, false, false, false, false, false, false] rfl rfl (any_of HT_.out (by kernel_rfl)) (fun _ _ _ h => h) (Or.inl ⟨by rfl, ?_⟩) ?_ ?_
                                              rotate_left
                                              · intro w'
                                                go_simp
                                                with_reducible rfl
                                              rotate_left
                                              · simp only [Act.put, List.setIfInBounds_toArray, List.set_cons_zero, List.set_cons_succ, i64_w, i32_w]
                                                rfl
                                              refine pure_ (i := 7) (N := some 156) (v := ?_) (a' := ?_) #[true, true, true, true, true, true, true, true, false, false, false, false, false, false, false, false, false, false, false, false, false, false, false, false, false, false, false, false, false, false, false, false, false] rfl rfl (any_of HT_.out (by kernel_rfl)) (fun _ _ _ h => h) (Or.inl ⟨by rfl, ?_⟩) ?_ ?_
                                              rotate_left
                                              · intro w'
                                                go_simp
                                                with_reducible rfl
                                              rotate_left
                                              · simp only [Act.put, List.setIfInBounds_toArray, List.set_cons_zero, List.set_cons_succ, i64_w, i32_w]
                                                rfl
                                              refine pure_ (i := 8) (N := some 157) (v := ?_) (a' := ?_) #[true, true, true, true, true, true, true, true, true, false, false, false, false, false, false, false, false, false, false, false, false, false, false, false, false, false, false, false, false, false, false, false, false] rfl rfl (any_of HT_.out (by kernel_rfl)) (fun _ _ _ h => h) (Or.inl ⟨by rfl, ?_⟩) ?_ ?_
                                              rotate_left
                                              · intro w'
                                                go_simp
                                                with_reducible rfl
                                              rotate_left
                                              · simp only [Act.put, List.setIfInBounds_toArray, List.set_cons_zero, List.set_cons_succ, i64_w, i32_w]
                                                rfl
                                              refine pure_ (i := 9) (N := some 158) (v := ?_) (a' := ?_) #[true, true, true, true, true, true, true, true, true, true, false, false, false, false, false, false, false, false, false, false, false, false, false, false, false, false, false, false, false, false, false, false, false] rfl rfl (any_of HT_.out (by kernel_rfl)) (fun _ _ _ h => h) (Or.inl ⟨by rfl, ?_⟩) ?_ ?_
                                              rotate_left
                                              · intro w'
                                                go_simp
                                                with_reducible rfl
                                              rotate_left
                                              · simp only [Act.put, List.setIfInBounds_toArray, List.set_cons_zero, List.set_cons_succ, i64_w, i32_w]
                                                rfl
                                              refine pure_ (i := 10) (N := some 159) (v := ?_) (a' := ?_) #[true, true, true, true, true, true, true, true, true, true, true, false, false, false, false, false, false, false, false, false, false, false, false, false, false, false, false, false, false, false, false, false, false] rfl rfl (any_of HT_.out (by kernel_rfl)) (fun _ _ _ h => h) (Or.inl ⟨by rfl, ?_⟩) ?_ ?_
                                              rotate_left
                                              · intro w'
                                                go_simp
                                                with_reducible rfl
                                              rotate_left
                                              · simp only [Act.put, List.setIfInBounds_toArray, List.set_cons_zero, List.set_cons_succ, i64_w, i32_w]
                                                rfl
                                              refine pure_ (i := 12) (N := some 161) (v := ?_) (a' := ?_) #[true, true, true, true, true, true, true, true, true, true, true, false, true, false, false, false, false, false, false, false, false, false, false, false, false, false, false, false, false, false, false, false, false] rfl rfl (any_of HT_.out (by kernel_rfl)) (fun _ _ _ h => h) (Or.inl ⟨by rfl, ?_⟩) ?_ ?_
                                              rotate_left
                                              · intro w'
                                                go_simp
                                                with_reducible rfl
                                              rotate_left
                                              · simp only [Act.put, List.setIfInBounds_toArray, List.set_cons_zero, List.set_cons_succ, i64_w, i32_w]
                                                rfl
                                              refine pure_ (i := 13) (N := some 162) (v := ?_) (a' := ?_) #[true, true, true, true, true, true, true, true, true, true, true, false, true, true, false, false, false, false, false, false, false, false, false, false, false, false, false, false, false, false, false, false, false] rfl rfl (any_of HT_.out (by kernel_rfl)) (fun _ _ _ h => h) (Or.inl ⟨by rfl, ?_⟩) ?_ ?_
                                              rotate_left
                                              · intro w'
                                                go_simp
                                                with_reducible rfl
                                              rotate_left
                                              · simp only [Act.put, List.setIfInBounds_toArray, List.set_cons_zero, List.set_cons_succ, i64_w, i32_w]
                                                rfl
                                              refine pure_ (i := 14) (N := some 163) (v := ?_) (a' := ?_) #[true, true, true, true, true, true, true, true, true, true, true, false, true, true, true, false, false, false, false, false, false, false, false, false, false, false, false, false, false, false, false, false, false] rfl rfl (any_of HT_.out (by kernel_rfl)) (fun _ _ _ h => h) (Or.inl ⟨by rfl, ?_⟩) ?_ ?_
                                              rotate_left
                                              · intro w'
                                                go_simp
                                                with_reducible rfl
                                              rotate_left
                                              · simp only [Act.put, List.setIfInBounds_toArray, List.set_cons_zero, List.set_cons_succ, i64_w, i32_w]
                                                rfl
                                              refine pure_ (i := 15) (N := some 164) (v := ?_) (a' := ?_) #[true, true, true, true, true, true, true, true, true, true, true, false, true, true, true, true, false, false, false, false, false, false, false, false, false, false, false, false, false, false, false, false, false] rfl rfl (any_of HT_.out (by kernel_rfl)) (fun _ _ _ h => h) (Or.inl ⟨by rfl, ?_⟩) ?_ ?_
                                              rotate_left
                                              · intro w'
                                                go_simp
                                                with_reducible rfl
                                              rotate_left
                                              · simp only [Act.put, List.setIfInBounds_toArray, List.set_cons_zero, List.set_cons_succ, i64_w, i32_w]
                                                rfl
                                              refine pure_ (i := 16) (N := some 165) (v := ?_) (a' := ?_) #[true, true, true, true, true, true, true, true, true, true, true, false, true, true, true, true, true, false, false, false, false, false, false, false, false, false, false, false, false, false, false, false, false] rfl rfl (any_of HT_.out (by kernel_rfl)) (fun _ _ _ h => h) (Or.inl ⟨by rfl, ?_⟩) ?_ ?_
                                              rotate_left
                                              · intro w'
                                                go_simp
                                                with_reducible rfl
                                              rotate_left
                                              · simp only [Act.put, List.setIfInBounds_toArray, List.set_cons_zero, List.set_cons_succ, i64_w, i32_w]
                                                rfl
                                              refine pure_ (i := 18) (N := some 167) (v := ?_) (a' := ?_) #[true, true, true, true, true, true, true, true, true, true, true, false, true, true, true, true, true, false, true, false, false, false, false, false, false, false, false, false, false, false, false, false, false] rfl rfl (any_of HT_.out (by kernel_rfl)) (fun _ _ _ h => h) (Or.inl ⟨by rfl, ?_⟩) ?_ ?_
                                              rotate_left
                                              · intro w'
                                                go_simp
                                                with_reducible rfl
                                              rotate_left
                                              · simp only [Act.put, List.setIfInBounds_toArray, List.set_cons_zero, List.set_cons_succ, i64_w, i32_w]
                                                rfl
                                              refine pure_ (i := 19) (N := some 168) (v := ?_) (a' := ?_) #[true, true, true, true, true, true, true, true, true, true, true, false, true, true, true, true, true, false, true, true, false, false, false, false, false, false, false, false, false, false, false, false, false] rfl rfl (any_of HT_.out (by kernel_rfl)) (fun _ _ _ h => h) (Or.inl ⟨by rfl, ?_⟩) ?_ ?_
                                              rotate_left
                                              · intro w'
                                                go_simp
                                                with_reducible rfl
                                              rotate_left
                                              · simp only [Act.put, List.setIfInBounds_toArray, List.set_cons_zero, List.set_cons_succ, i64_w, i32_w]
                                                rfl
                                              refine pure_ (i := 20) (N := some 169) (v := ?_) (a' := ?_) #[true, true, true, true, true, true, true, true, true, true, true, false, true, true, true, true, true, false, true, true, true, false, false, false, false, false, false, false, false, false, false, false, false] rfl rfl (any_of HT_.out (by kernel_rfl)) (fun _ _ _ h => h) (Or.inl ⟨by rfl, ?_⟩) ?_ ?_
                                              rotate_left
                                              · intro w'
                                                go_simp
                                                with_reducible rfl
                                              rotate_left
                                              · simp only [Act.put, List.setIfInBounds_toArray, List.set_cons_zero, List.set_cons_succ, i64_w, i32_w]
                                                rfl
                                              refine pure_ (i := 21) (N := some 170) (v := ?_) (a' := ?_) #[true, true, true, true, true, true, true, true, true, true, true, false, true, true, true, true, true, false, true, true, true, true, false, false, false, false, false, false, false, false, false, false, false] rfl rfl (any_of HT_.out (by kernel_rfl)) (fun _ _ _ h => h) (Or.inl ⟨by rfl, ?_⟩) ?_ ?_
                                              rotate_left
                                              · intro w'
                                                go_simp
                                                with_reducible rfl
                                              rotate_left
                                              · simp only [Act.put, List.setIfInBounds_toArray, List.set_cons_zero, List.set_cons_succ, i64_w, i32_w]
                                                rfl
                                              refine pure_ (i := 22) (N := some 171) (v := ?_) (a' := ?_) #[true, true, true, true, true, true, true, true, true, true, true, false, true, true, true, true, true, false, true, true, true, true, true, false, false, false, false, false, false, false, false, false, false] rfl rfl (any_of HT_.out (by kernel_rfl)) (fun _ _ _ h => h) (Or.inl ⟨by rfl, ?_⟩) ?_ ?_
                                              rotate_left
                                              · intro w'
                                                go_simp
                                                with_reducible rfl
                                              rotate_left
                                              · simp only [Act.put, List.setIfInBounds_toArray, List.set_cons_zero, List.set_cons_succ, i64_w, i32_w]
                                                rfl
                                              refine take_ (i := 11) (N := some 160) (v := ?_) (a' := ?_) #[true, true, true, true, true, true, true, true, true, true, true, true, true, true, true, true, true, false, true, true, true, true, true, false, false, false, false, false, false, false, false, false, false] rfl rfl (take_ofW HT_.out HW_.out (by kernel_rfl)) (fun _ _ _ h => h) (Or.inl ⟨by rfl, ?_⟩) hHeld ?_ ?_
                                              rotate_left
                                              · rintro w' ⟨s0, s1, s2⟩
                                                go_simp
                                                with_reducible rfl
                                              rotate_left
                                              · simp only [Act.put, List.setIfInBounds_toArray, List.set_cons_zero, List.set_cons_succ, i64_w, i32_w]
                                                rfl
                                              refine take_ (i := 17) (N := some 166) (v := ?_) (a' := ?_) #[true, true, true, true, true, true, true, true, true, true, true, true, true, true, true, true, true, true, true, true, true, true, true, false, false, false, false, false, false, false, false, false, false] rfl rfl (take_ofW HT_.out HW_.out (by kernel_rfl)) (fun _ _ _ h => h) (Or.inl ⟨by rfl, ?_⟩) hHeld ?_ ?_
                                              rotate_left
                                              · rintro w' ⟨s0, s1, s2⟩
                                                go_simp
                                                with_reducible rfl
                                              rotate_left
                                              · simp only [Act.put, List.setIfInBounds_toArray, List.set_cons_zero, List.set_cons_succ, i64_w, i32_w]
                                                rfl
                                              refine take_ (i := 23) (N := some 172) (v := ?_) (a' := ?_) #[true, true, true, true, true, true, true, true, true, true, true, true, true, true, true, true, true, true, true, true, true, true, true, true, false, false, false, false, false, false, false, false, false] rfl rfl (take_ofW HT_.out HW_.out (by kernel_rfl)) (fun _ _ _ h => h) (Or.inl ⟨by rfl, ?_⟩) hHeld ?_ ?_
                                              rotate_left
                                              · rintro w' ⟨s0, s1, s2⟩
                                                go_simp
                                                with_reducible rfl
                                              rotate_left
                                              · simp only [Act.put, List.setIfInBounds_toArray, List.set_cons_zero, List.set_cons_succ, i64_w, i32_w]
                                                rfl
                                              refine pure_ (i := 24) (N := some 173) (v := ?_) (a' := ?_) #[true, true, true, true, true, true, true, true, true, true, true, true, true, true, true, true, true, true, true, true, true, true, true, true, true, false, false, false, false, false, false, false, false] rfl rfl (any_of HT_.out (by kernel_rfl)) (fun _ _ _ h => h) (Or.inl ⟨by rfl, ?_⟩) ?_ ?_
                                              rotate_left
                                              · intro w'
                                                go_simp
                                                with_reducible rfl
                                              rotate_left
                                              · simp only [Act.put, List.setIfInBounds_toArray, List.set_cons_zero, List.set_cons_succ, i64_w, i32_w]
                                                rfl
                                              refine pure_ (i := 25) (N := some 174) (v := ?_) (a' := ?_) #[true, true, true, true, true, true, true, true, true, true, true, true, true, true, true, true, true, true, true, true, true, true, true, true, true, true, false, false, false, false, false, false, false] rfl rfl (any_of HT_.out (by kernel_rfl)) (fun _ _ _ h => h) (Or.inl ⟨by rfl, ?_⟩) ?_ ?_
                                              rotate_left
                                              · intro w'
                                                go_simp
                                                with_reducible rfl
                                              rotate_left
                                              · simp only [Act.put, List.setIfInBounds_toArray, List.set_cons_zero, List.set_cons_succ, i64_w, i32_w]
                                                rfl
                                              refine last_ (i := 26) (N := none) #[true, true, true, true, true, true, true, true, true, true, true, true, true, true, true, true, true, true, true, true, true, true, true, true, true, true, true, false, false, false, false, false, false] rfl rfl (one_of HT_.out (by kernel_rfl)) (by decide) (fun K hK => ?_)
                                              refine skip_ (w1 := ?_) (by rfl) rfl ?_ ?_
                                              rotate_left
                                              · go_simp
                                                rfl
                                              refine hK.out _ _ ?_
                                              clear hK K
                                              refine pure_ (i := 27) (N := some 175) (v := ?_) (a' := ?_) #[true, true, true, true, true, true, true, true, true, true, true, true, true, true, true, true, true, true, true, true, true, true, true, true, true, true, true, true, false, false, false, false, false] rfl rfl (any_of HT_.out (by kernel_rfl)) (fun _ _ _ h => h) (Or.inl ⟨by rfl, ?_⟩) ?_ ?_
                                              rotate_left
                                              · intro w'
                                                go_simp
                                                with_reducible rfl
                                              rotate_left
                                              · simp only [Act.put, List.setIfInBounds_toArray, List.set_cons_zero, List.set_cons_succ, i64_w, i32_w]
                                                rfl
                                              refine pure_ (i := 28) (N := some 176) (v := ?_) (a' := ?_) #[true, true, true, true, true, true, true, true, true, true, true, true, true, true, true, true, true, true, true, true, true, true, true, true, true, true, true, true, true, false, false, false, false] rfl rfl (any_of HT_.out (by kernel_rfl)) (fun _ _ _ h => h) (Or.inl ⟨by rfl, ?_⟩) ?_ ?_
                                              rotate_left
                                              · intro w'
                                                go_simp
                                                with_reducible rfl
                                              rotate_left
                                              · simp only [Act.put, List.setIfInBounds_toArray, List.set_cons_zero, List.set_cons_succ, i64_w, i32_w]
                                                rfl
                                              refine last_ (i := 29) (N := none) #[true, true, true, true, true, true, true, true, true, true, true, true, true, true, true, true, true, true, true, true, true, true, true, true, true, true, true, true, true, true, false, false, false] rfl rfl (one_of HT_.out (by kernel_rfl)) (by decide) (fun K hK => ?_)
                                              refine skip_ (w1 := ?_) (by rfl) rfl ?_ ?_
                                              rotate_left
                                              · go_simp
                                                rfl
                                              refine hK.out _ _ ?_
                                              clear hK K
                                              refine pure_ (i := 30) (N := some 177) (v := ?_) (a' := ?_) #[true, true, true, true, true, true, true, true, true, true, true, true, true, true, true, true, true, true, true, true, true, true, true, true, true, true, true, true, true, true, true, false, false] rfl rfl (any_of HT_.out (by kernel_rfl)) (fun _ _ _ h => h) (Or.inl ⟨by rfl, ?_⟩) ?_ ?_
                                              rotate_left
                                              · intro w'
                                                go_simp
                                                with_reducible rfl
                                              rotate_left
                                              · simp only [Act.put, List.setIfInBounds_toArray, List.set_cons_zero, List.set_cons_succ, i64_w, i32_w]
                                                rfl
                                              refine pure_ (i := 31) (N := some 178) (v := ?_) (a' := ?_) #[true, true, true, true, true, true, true, true, true, true, true, true, true, true, true, true, true, true, true, true, true, true, true, true, true, true, true, true, true, true, true, true, false] rfl rfl (any_of HT_.out (by kernel_rfl)) (fun _ _ _ h => h) (Or.inl ⟨by rfl, ?_⟩) ?_ ?_
                                              rotate_left
                                              · intro w'
                                                go_simp
                                                with_reducible rfl
                                              rotate_left
                                              · simp only [Act.put, List.setIfInBounds_toArray, List.set_cons_zero, List.set_cons_succ, i64_w, i32_w]
                                                rfl
                                              refine last_ (i := 32) (N := none) #[true, true, true, true, true, true, true, true, true, true, true, true, true, true, true, true, true, true, true, true, true, true, true, true, true, true, true, true, true, true, true, true, true] rfl rfl (one_of HT_.out (by kernel_rfl)) (by decide) (fun K hK => ?_)
                                              refine skip_ (w1 := ?_) (by rfl) rfl ?_ ?_
                                              rotate_left
                                              · go_simp
                                                rfl
                                              refine hK.out _ _ ?_
                                              clear hK K
                                              refine done_ (done_of HT_.out (by kernel_rfl)) ?_
                                              try go_wp2
                                              go_roundg k4
                                              case measure => have := HK1.out; have := HJ18.out; have := HK3.out; have := HK4.out; omega
                                              case rel => exact ⟨(y205), (wrap64 (x20_4 + 1)), (by first | rfl | (simp; done) | (simp [*]; done)), H', ⟨by have := HK1.out; have := HJ18.out; have := HK3.out; have := HK4.out; omega⟩, ⟨by (with_reducible repeat (first | apply Kd.R_alloc | apply Kd.R_drewN | apply Kd.R_drew)); exact Kd.R_mono (Kd.R_far (p := ⟨go90, (x20_4 : Int).toNat * 6 + 5, none⟩) (Kd.R_far (p := ⟨go90, (x20_4 : Int).toNat * 6 + 4, none⟩) (Kd.R_far (p := ⟨go90, (x20_4 : Int).toNat * 6 + 3, none⟩) (Kd.R_types HO_9.out GG90.out (by decide)) (fun _ hk => hk.2) (.int .i64 (rd x9_3 (ji80)))) (fun _ hk => hk.2) (.int .i64 (rd x9_3 (ji83)))) (fun _ hk => hk.2) (.int .i64 (rd x9_3 (ji86)))) (fun _ hk => trivial)⟩, ⟨by (with_reducible repeat (first | apply Kd.R_alloc | apply Kd.R_drewN | apply Kd.R_drew)); exact HQ97.out⟩, ⟨by repeat (first | (with_reducible first | exact HB.out | apply below_alloc | apply pw_below_drewN | apply below_drew1 | refine below_set ?_ GB90.out | refine below_set ?_ GB90.out | refine below_set ?_ GB90.out) | exact HB.out)⟩⟩
                                            · rw [if_neg c89] at H
                                              exact absurd H (by simp)
                                          · rw [if_neg c88] at H
                                            exact absurd H (by simp)
                                        · rw [if_neg c87] at H
                                          exact absurd H (by simp)
                                      · rw [if_neg c85] at H
                                        exact absurd H (by simp)
                                    · rw [if_neg c84] at H
                                      exact absurd H (by simp)
                                  · rw [if_neg c82] at H
                                    exact absurd H (by simp)
                                · rw [if_neg c81] at H
                                  exact absurd H (by simp)
                              · rw [if_neg c79] at H
                                have c79b0 : decide (x20_4 < (x19_4.length : Int)) = false := decide_eq_false c79
                                clear c79
                                by_cases c98 : 0 < (x9_3.length : Int)
                                · rw [if_pos c98] at H
                                  have c98b0 : decide (0 < (x9_3.length : Int)) = true := decide_eq_true c98
                                  have c98b1 : decide (0 < x9_3.length) = true := decide_eq_true (by omega)
                                  clear c98
                                  simp only [Option.some.injEq, Prod.mk.injEq] at H
                                  obtain ⟨rfl, rfl, rfl⟩ := H
                                  obtain ⟨Ao99, co99, eo99⟩ := Kd.R_slice HO_19.out
                                  subst eo99
                                  have p206 : 0 ≤ (0 : Int) := (by omega)
                                  have q206 : 0 < (x9_3.length : Int) := of_decide_eq_true (by first | (with_reducible assumption) | assumption)
                                  obtain ⟨ad206, e206, hx206_0⟩ := Kd.at_int (Kd.R_reads' HO_9.out).2.2 0 p206 q206
                                  cases e206
                                  have qi206 : (0 < x9_3.length) = True := eq_true (by omega)
                                  (try rw [show ((0 : Int)).toNat = 0 from rfl] at hx206_0)
                                  (try rw [Addr.add_zero'] at hx206_0)
                                  replace p206 := eq_true p206
                                  replace q206 := eq_true q206
                                  go_wp2
                                  go_ret3
                                  exact ⟨_, by first | rfl | (simp [errW_none, errW_some] <;> rfl) | (simp [*, errW_none, errW_some] <;> rfl), by (with_reducible repeat (first | apply Kd.R_alloc | apply Kd.R_drewN | apply Kd.R_drew)); exact HO_19.out, by repeat (first | (with_reducible first | exact HB.out | apply below_alloc | apply pw_below_drewN | apply below_drew1) | exact HB.out)⟩
                                · rw [if_neg c98] at H
                                  exact absurd H (by simp)
                        · rw [if_neg c74] at H
                          exact absurd H (by simp)
                · rw [if_neg c24] at H
                  have c24b0 : (t177 == 0) = false := beq_eq_false_iff_ne.mpr c24
                  have c24b1 : (t177 != 0) = true := bne_iff_ne.mpr c24
                  simp only [Option.some.injEq, Prod.mk.injEq] at H
                  obtain ⟨rfl, rfl, rfl⟩ := H
                  obtain ⟨Ao100, co100, eo100⟩ := Kd.R_slice HO_10.out
                  subst eo100
                  go_wp2_with (first | ((with_reducible refine gate_callee (f := 17) rfl ?_); refine goesL_ (some 71) rfl rfl Try.func17 (by kernel_rfl) rfl #[.slice Ao100 x10_1.length co100] rfl (by (try simp only [List.map_toArray, List.map_cons, List.map_nil]); first | done | rfl | (simp only [List.length_drop, List.length_take]; rfl)) ?_; (with_reducible refine (prebendref01_Add.calls kj18 _ _ x10_1 t177 t178 _ ?side1 ?side2 A22.out).mono ?_); (case side1 => repeat (first | exact (Kd.R_reads' HO_10.out).2.2 | (with_reducible refine Kd.C_alloc ?_ _) | (with_reducible refine Kd.C_drewN ?_ _) | (with_reducible refine Kd.C_drew ?_))); (case side2 => exact (Kd.R_reads' HO_10.out).2.1); rintro e w' ⟨rfl, ⟨nd, rfl⟩⟩; refine ⟨_, rfl, ?_⟩))
                  go_ret3
                  exact ⟨_, by first | rfl | (simp [errW_none, errW_some] <;> rfl) | (simp [*, errW_none, errW_some] <;> rfl), by first | exact Kd.R_nil _ _ _ _ _ | exact Kd.N_nil _ _ _ _ _ | exact Kd.V_nil _ _ _ _ _ | exact Kd.Q_nil _ _ _ _ _ | exact Kd.S_nil _ _ _ _ _, by repeat (first | (with_reducible first | exact HB.out | apply below_alloc | apply pw_below_drewN | apply below_drew1) | exact HB.out)⟩
              · rw [if_neg c23] at H
                have c23b0 : (t178 == 0) = false := beq_eq_false_iff_ne.mpr c23
                have c23b1 : (t178 != 0) = true := bne_iff_ne.mpr c23
                simp only [Option.some.injEq, Prod.mk.injEq] at H
                obtain ⟨rfl, rfl, rfl⟩ := H
                obtain ⟨Ao101, co101, eo101⟩ := Kd.R_slice HO_10.out
                subst eo101
                go_wp2_with (first | ((with_reducible refine gate_callee (f := 17) rfl ?_); refine goesL_ (some 71) rfl rfl Try.func17 (by kernel_rfl) rfl #[.slice Ao101 x10_1.length co101] rfl (by (try simp only [List.map_toArray, List.map_cons, List.map_nil]); first | done | rfl | (simp only [List.length_drop, List.length_take]; rfl)) ?_; (with_reducible refine (prebendref01_Add.calls kj18 _ _ x10_1 t177 t178 _ ?side1 ?side2 A22.out).mono ?_); (case side1 => repeat (first | exact (Kd.R_reads' HO_10.out).2.2 | (with_reducible refine Kd.C_alloc ?_ _) | (with_reducible refine Kd.C_drewN ?_ _) | (with_reducible refine Kd.C_drew ?_))); (case side2 => exact (Kd.R_reads' HO_10.out).2.1); rintro e w' ⟨rfl, ⟨nd, rfl⟩⟩; refine ⟨_, rfl, ?_⟩))
                go_ret3
                exact ⟨_, by first | rfl | (simp [errW_none, errW_some] <;> rfl) | (simp [*, errW_none, errW_some] <;> rfl), by first | exact Kd.R_nil _ _ _ _ _ | exact Kd.N_nil _ _ _ _ _ | exact Kd.V_nil _ _ _ _ _ | exact Kd.Q_nil _ _ _ _ _ | exact Kd.S_nil _ _ _ _ _, by repeat (first | (with_reducible first | exact HB.out | apply below_alloc | apply pw_below_drewN | apply below_drew1) | exact HB.out)⟩

end Go.Proofs.Ytkjkonkgcepanaa.PAll
