/- Words, plain functions and contracts of the functions that the law of this claim reaches; no conditions. -/
import Derived.Test.YtjmkpcnekghmhaaBSnapEncodes4
section
namespace Go.Proofs.Ytjmkpcnekghmhaa.PAll
open Go.RowKit Go.Proofs.YtjmkpcnekghmhaaW.PrintWords Go.Proofs.YtjmkpcnekghmhaaW.PrintLast Go.Proofs.YtjmkpcnekghmhaaW.PrintMore
attribute [local go_sem] max2_int min2_int max_two min_two max_three min_three max_four min_four   -- for this text's walks alone
set_option linter.unusedVariables false
set_option linter.unusedSimpArgs false

attribute [local go_sem high] eqA93 eqA95 eqA97
mutual
def prebendref13_Same.j0 : Nat → Bool → Int → Int → Int → List (S93) → List (S95) → List (S97) → List (S100) → List ByteArray → Int → Int → Int → List (S93) → List (S95) → List (S97) → List (S100) → List ByteArray → Option (Bool)
 | 0, _, _, _, _, _, _, _, _, _, _, _, _, _, _, _, _, _ => none
 | k + 1, x73, x624000, x624001, x624002, x624003, x624004, x624005, x624006, x624007, x625000, x625001, x625002, x625003, x625004, x625005, x625006, x625007 => if x73 = true then (some false) else (prebendref13_Same.l0 k 0 x624000 x624001 x624002 x624003 x624004 x624005 x624006 x624007 x625000 x625001 x625002 x625003 x625004 x625005 x625006 x625007)
def prebendref13_Same.l0 : Nat → Int → Int → Int → Int → List (S93) → List (S95) → List (S97) → List (S100) → List ByteArray → Int → Int → Int → List (S93) → List (S95) → List (S97) → List (S100) → List ByteArray → Option (Bool)
 | 0, _, _, _, _, _, _, _, _, _, _, _, _, _, _, _, _, _ => none
 | k + 1, x5, x624000, x624001, x624002, x624003, x624004, x624005, x624006, x624007, x625000, x625001, x625002, x625003, x625004, x625005, x625006, x625007 => if x5 < (x624003.length : Int) then (if 0 ≤ x5 then (if x5 < (x625003.length : Int) then (if (!((((rd_T93 x624003 x5).f0).toList) == (((rd_T93 x625003 x5).f0).toList)) || (!(((rd_T93 x624003 x5).f1) == ((rd_T93 x625003 x5).f1)) || (!(((rd_T93 x624003 x5).f2) == ((rd_T93 x625003 x5).f2))))) = true then (some false) else (prebendref13_Same.l0 k (wrap64 (x5 + 1)) x624000 x624001 x624002 x624003 x624004 x624005 x624006 x624007 x625000 x625001 x625002 x625003 x625004 x625005 x625006 x625007)) else (none)) else (none)) else (prebendref13_Same.l1 k 0 x624000 x624001 x624002 x624003 x624004 x624005 x624006 x624007 x625000 x625001 x625002 x625003 x625004 x625005 x625006 x625007)
def prebendref13_Same.l1 : Nat → Int → Int → Int → Int → List (S93) → List (S95) → List (S97) → List (S100) → List ByteArray → Int → Int → Int → List (S93) → List (S95) → List (S97) → List (S100) → List ByteArray → Option (Bool)
 | 0, _, _, _, _, _, _, _, _, _, _, _, _, _, _, _, _, _ => none
 | k + 1, x6, x624000, x624001, x624002, x624003, x624004, x624005, x624006, x624007, x625000, x625001, x625002, x625003, x625004, x625005, x625006, x625007 => if x6 < (x624004.length : Int) then (if 0 ≤ x6 then (if x6 < (x625004.length : Int) then (if (!(((rd_T95 x624004 x6).f0) == ((rd_T95 x625004 x6).f0)) || (!(((rd_T95 x624004 x6).f1) == ((rd_T95 x625004 x6).f1)) || (!(((rd_T95 x624004 x6).f2) == ((rd_T95 x625004 x6).f2)) || (!(((rd_T95 x624004 x6).f3) == ((rd_T95 x625004 x6).f3)) || (!(((rd_T95 x624004 x6).f4) == ((rd_T95 x625004 x6).f4)) || (!(((rd_T95 x624004 x6).f5) == ((rd_T95 x625004 x6).f5)))))))) = true then (some false) else (prebendref13_Same.l1 k (wrap64 (x6 + 1)) x624000 x624001 x624002 x624003 x624004 x624005 x624006 x624007 x625000 x625001 x625002 x625003 x625004 x625005 x625006 x625007)) else (none)) else (none)) else (prebendref13_Same.l2 k 0 x624000 x624001 x624002 x624003 x624004 x624005 x624006 x624007 x625000 x625001 x625002 x625003 x625004 x625005 x625006 x625007)
def prebendref13_Same.l2 : Nat → Int → Int → Int → Int → List (S93) → List (S95) → List (S97) → List (S100) → List ByteArray → Int → Int → Int → List (S93) → List (S95) → List (S97) → List (S100) → List ByteArray → Option (Bool)
 | 0, _, _, _, _, _, _, _, _, _, _, _, _, _, _, _, _, _ => none
 | k + 1, x7, x624000, x624001, x624002, x624003, x624004, x624005, x624006, x624007, x625000, x625001, x625002, x625003, x625004, x625005, x625006, x625007 => if x7 < (x624005.length : Int) then (if 0 ≤ x7 then (if x7 < (x625005.length : Int) then (if (!(((rd_T97 x624005 x7).f0) == ((rd_T97 x625005 x7).f0)) || (!(((rd_T97 x624005 x7).f1) == ((rd_T97 x625005 x7).f1)) || (!(((rd_T97 x624005 x7).f2) == ((rd_T97 x625005 x7).f2))))) = true then (some false) else (prebendref13_Same.l2 k (wrap64 (x7 + 1)) x624000 x624001 x624002 x624003 x624004 x624005 x624006 x624007 x625000 x625001 x625002 x625003 x625004 x625005 x625006 x625007)) else (none)) else (none)) else (prebendref13_Same.l3 k 0 x624000 x624001 x624002 x624003 x624004 x624005 x624006 x624007 x625000 x625001 x625002 x625003 x625004 x625005 x625006 x625007)
def prebendref13_Same.l3 : Nat → Int → Int → Int → Int → List (S93) → List (S95) → List (S97) → List (S100) → List ByteArray → Int → Int → Int → List (S93) → List (S95) → List (S97) → List (S100) → List ByteArray → Option (Bool)
 | 0, _, _, _, _, _, _, _, _, _, _, _, _, _, _, _, _, _ => none
 | k + 1, x8, x624000, x624001, x624002, x624003, x624004, x624005, x624006, x624007, x625000, x625001, x625002, x625003, x625004, x625005, x625006, x625007 => if x8 < (x624006.length : Int) then (if 0 ≤ x8 then (if x8 < (x625006.length : Int) then ((prebendref13_SameJob.f k ((rd_T100 x624006 x8).f0) ((rd_T100 x624006 x8).f1) ((rd_T100 x624006 x8).f2) ((rd_T100 x624006 x8).f3) ((rd_T100 x624006 x8).f4) ((rd_T100 x624006 x8).f5) ((rd_T100 x624006 x8).f6) ((rd_T100 x624006 x8).f7) ((rd_T100 x624006 x8).f8) ((rd_T100 x624006 x8).f9) ((rd_T100 x624006 x8).f10) ((rd_T100 x624006 x8).f11) ((rd_T100 x625006 x8).f0) ((rd_T100 x625006 x8).f1) ((rd_T100 x625006 x8).f2) ((rd_T100 x625006 x8).f3) ((rd_T100 x625006 x8).f4) ((rd_T100 x625006 x8).f5) ((rd_T100 x625006 x8).f6) ((rd_T100 x625006 x8).f7) ((rd_T100 x625006 x8).f8) ((rd_T100 x625006 x8).f9) ((rd_T100 x625006 x8).f10) ((rd_T100 x625006 x8).f11)).bind fun t633 => (if t633 = true then (prebendref13_Same.l3 k (wrap64 (x8 + 1)) x624000 x624001 x624002 x624003 x624004 x624005 x624006 x624007 x625000 x625001 x625002 x625003 x625004 x625005 x625006 x625007) else (some false))) else (none)) else (none)) else (prebendref13_Same.l4 k 0 x624000 x624001 x624002 x624003 x624004 x624005 x624006 x624007 x625000 x625001 x625002 x625003 x625004 x625005 x625006 x625007)
def prebendref13_Same.l4 : Nat → Int → Int → Int → Int → List (S93) → List (S95) → List (S97) → List (S100) → List ByteArray → Int → Int → Int → List (S93) → List (S95) → List (S97) → List (S100) → List ByteArray → Option (Bool)
 | 0, _, _, _, _, _, _, _, _, _, _, _, _, _, _, _, _, _ => none
 | k + 1, x9, x624000, x624001, x624002, x624003, x624004, x624005, x624006, x624007, x625000, x625001, x625002, x625003, x625004, x625005, x625006, x625007 => if x9 < (x624007.length : Int) then (if 0 ≤ x9 then (if x9 < (x625007.length : Int) then (if (rdOf ByteArray.empty x624007 x9).toList = (rdOf ByteArray.empty x625007 x9).toList then (prebendref13_Same.l4 k (wrap64 (x9 + 1)) x624000 x624001 x624002 x624003 x624004 x624005 x624006 x624007 x625000 x625001 x625002 x625003 x625004 x625005 x625006 x625007) else (some false)) else (none)) else (none)) else (some true)
end
def prebendref13_Same.f (k : Nat) (a0_0 : Int) (a0_1 : Int) (a0_2 : Int) (l0_3 : List (S93)) (l0_4 : List (S95)) (l0_5 : List (S97)) (l0_6 : List (S100)) (l0_7 : List ByteArray) (a1_0 : Int) (a1_1 : Int) (a1_2 : Int) (l1_3 : List (S93)) (l1_4 : List (S95)) (l1_5 : List (S97)) (l1_6 : List (S100)) (l1_7 : List ByteArray) : Option (Bool) := if a0_0 = a1_0 then (if a0_1 = a1_1 then (if a0_2 = a1_2 then (if (l0_3.length : Int) = (l1_3.length : Int) then (if (l0_4.length : Int) = (l1_4.length : Int) then (if (l0_5.length : Int) = (l1_5.length : Int) then (if (l0_6.length : Int) = (l1_6.length : Int) then (prebendref13_Same.j0 k ((l0_7.length : Int) != (l1_7.length : Int)) a0_0 a0_1 a0_2 l0_3 l0_4 l0_5 l0_6 l0_7 a1_0 a1_1 a1_2 l1_3 l1_4 l1_5 l1_6 l1_7) else (prebendref13_Same.j0 k true a0_0 a0_1 a0_2 l0_3 l0_4 l0_5 l0_6 l0_7 a1_0 a1_1 a1_2 l1_3 l1_4 l1_5 l1_6 l1_7)) else (prebendref13_Same.j0 k true a0_0 a0_1 a0_2 l0_3 l0_4 l0_5 l0_6 l0_7 a1_0 a1_1 a1_2 l1_3 l1_4 l1_5 l1_6 l1_7)) else (prebendref13_Same.j0 k true a0_0 a0_1 a0_2 l0_3 l0_4 l0_5 l0_6 l0_7 a1_0 a1_1 a1_2 l1_3 l1_4 l1_5 l1_6 l1_7)) else (prebendref13_Same.j0 k true a0_0 a0_1 a0_2 l0_3 l0_4 l0_5 l0_6 l0_7 a1_0 a1_1 a1_2 l1_3 l1_4 l1_5 l1_6 l1_7)) else (prebendref13_Same.j0 k true a0_0 a0_1 a0_2 l0_3 l0_4 l0_5 l0_6 l0_7 a1_0 a1_1 a1_2 l1_3 l1_4 l1_5 l1_6 l1_7)) else (prebendref13_Same.j0 k true a0_0 a0_1 a0_2 l0_3 l0_4 l0_5 l0_6 l0_7 a1_0 a1_1 a1_2 l1_3 l1_4 l1_5 l1_6 l1_7)) else (prebendref13_Same.j0 k true a0_0 a0_1 a0_2 l0_3 l0_4 l0_5 l0_6 l0_7 a1_0 a1_1 a1_2 l1_3 l1_4 l1_5 l1_6 l1_7)
theorem prebendref13_Same.mono_l : ∀ k, (∀ y0 y1 y2 y3 y4 y5 y6 y7 y8 y9 y10 y11 y12 y13 y14 y15 y16, LeO (prebendref13_Same.j0 k y0 y1 y2 y3 y4 y5 y6 y7 y8 y9 y10 y11 y12 y13 y14 y15 y16) (prebendref13_Same.j0 (k + 1) y0 y1 y2 y3 y4 y5 y6 y7 y8 y9 y10 y11 y12 y13 y14 y15 y16)) ∧ (∀ y0 y1 y2 y3 y4 y5 y6 y7 y8 y9 y10 y11 y12 y13 y14 y15 y16, LeO (prebendref13_Same.l0 k y0 y1 y2 y3 y4 y5 y6 y7 y8 y9 y10 y11 y12 y13 y14 y15 y16) (prebendref13_Same.l0 (k + 1) y0 y1 y2 y3 y4 y5 y6 y7 y8 y9 y10 y11 y12 y13 y14 y15 y16)) ∧ (∀ y0 y1 y2 y3 y4 y5 y6 y7 y8 y9 y10 y11 y12 y13 y14 y15 y16, LeO (prebendref13_Same.l1 k y0 y1 y2 y3 y4 y5 y6 y7 y8 y9 y10 y11 y12 y13 y14 y15 y16) (prebendref13_Same.l1 (k + 1) y0 y1 y2 y3 y4 y5 y6 y7 y8 y9 y10 y11 y12 y13 y14 y15 y16)) ∧ (∀ y0 y1 y2 y3 y4 y5 y6 y7 y8 y9 y10 y11 y12 y13 y14 y15 y16, LeO (prebendref13_Same.l2 k y0 y1 y2 y3 y4 y5 y6 y7 y8 y9 y10 y11 y12 y13 y14 y15 y16) (prebendref13_Same.l2 (k + 1) y0 y1 y2 y3 y4 y5 y6 y7 y8 y9 y10 y11 y12 y13 y14 y15 y16)) ∧ (∀ y0 y1 y2 y3 y4 y5 y6 y7 y8 y9 y10 y11 y12 y13 y14 y15 y16, LeO (prebendref13_Same.l3 k y0 y1 y2 y3 y4 y5 y6 y7 y8 y9 y10 y11 y12 y13 y14 y15 y16) (prebendref13_Same.l3 (k + 1) y0 y1 y2 y3 y4 y5 y6 y7 y8 y9 y10 y11 y12 y13 y14 y15 y16)) ∧ (∀ y0 y1 y2 y3 y4 y5 y6 y7 y8 y9 y10 y11 y12 y13 y14 y15 y16, LeO (prebendref13_Same.l4 k y0 y1 y2 y3 y4 y5 y6 y7 y8 y9 y10 y11 y12 y13 y14 y15 y16) (prebendref13_Same.l4 (k + 1) y0 y1 y2 y3 y4 y5 y6 y7 y8 y9 y10 y11 y12 y13 y14 y15 y16))
 | 0 => ⟨fun _ _ _ _ _ _ _ _ _ _ _ _ _ _ _ _ _ r h => by simp [prebendref13_Same.j0] at h, fun _ _ _ _ _ _ _ _ _ _ _ _ _ _ _ _ _ r h => by simp [prebendref13_Same.l0] at h, fun _ _ _ _ _ _ _ _ _ _ _ _ _ _ _ _ _ r h => by simp [prebendref13_Same.l1] at h, fun _ _ _ _ _ _ _ _ _ _ _ _ _ _ _ _ _ r h => by simp [prebendref13_Same.l2] at h, fun _ _ _ _ _ _ _ _ _ _ _ _ _ _ _ _ _ r h => by simp [prebendref13_Same.l3] at h, fun _ _ _ _ _ _ _ _ _ _ _ _ _ _ _ _ _ r h => by simp [prebendref13_Same.l4] at h⟩
 | k + 1 => by
  obtain ⟨ih0, ih1, ih2, ih3, ih4, ih5⟩ := prebendref13_Same.mono_l k
  refine ⟨?_, ?_, ?_, ?_, ?_, ?_⟩
  ·intro y0 y1 y2 y3 y4 y5 y6 y7 y8 y9 y10 y11 y12 y13 y14 y15 y16
   unfold prebendref13_Same.j0
   repeat' first
   | (with_reducible exact ih0 _ _ _ _ _ _ _ _ _ _ _ _ _ _ _ _ _)
   | (with_reducible exact ih1 _ _ _ _ _ _ _ _ _ _ _ _ _ _ _ _ _)
   | (with_reducible exact ih2 _ _ _ _ _ _ _ _ _ _ _ _ _ _ _ _ _)
   | (with_reducible exact ih3 _ _ _ _ _ _ _ _ _ _ _ _ _ _ _ _ _)
   | (with_reducible exact ih4 _ _ _ _ _ _ _ _ _ _ _ _ _ _ _ _ _)
   | (with_reducible exact ih5 _ _ _ _ _ _ _ _ _ _ _ _ _ _ _ _ _)
   | (with_reducible exact prebendref13_SameJob.mono _ _ _ _ _ _ _ _ _ _ _ _ _ _ _ _ _ _ _ _ _ _ _ _ _)
   | (with_reducible exact LeO.refl _)
   | (with_reducible exact LeO.none _)
   | (with_reducible refine LeO.ite ?_ ?_)
   | (with_reducible refine LeO.bind ?_ (fun _ => ?_))
   | exact ih0 _ _ _ _ _ _ _ _ _ _ _ _ _ _ _ _ _
   | exact ih1 _ _ _ _ _ _ _ _ _ _ _ _ _ _ _ _ _
   | exact ih2 _ _ _ _ _ _ _ _ _ _ _ _ _ _ _ _ _
   | exact ih3 _ _ _ _ _ _ _ _ _ _ _ _ _ _ _ _ _
   | exact ih4 _ _ _ _ _ _ _ _ _ _ _ _ _ _ _ _ _
   | exact ih5 _ _ _ _ _ _ _ _ _ _ _ _ _ _ _ _ _
   | exact prebendref13_SameJob.mono _ _ _ _ _ _ _ _ _ _ _ _ _ _ _ _ _ _ _ _ _ _ _ _ _
   | exact LeO.none _
   | refine LeO.ite ?_ ?_
   | refine LeO.bind ?_ (fun _ => ?_)
  ·intro y0 y1 y2 y3 y4 y5 y6 y7 y8 y9 y10 y11 y12 y13 y14 y15 y16
   unfold prebendref13_Same.l0
   repeat' first
   | (with_reducible exact ih0 _ _ _ _ _ _ _ _ _ _ _ _ _ _ _ _ _)
   | (with_reducible exact ih1 _ _ _ _ _ _ _ _ _ _ _ _ _ _ _ _ _)
   | (with_reducible exact ih2 _ _ _ _ _ _ _ _ _ _ _ _ _ _ _ _ _)
   | (with_reducible exact ih3 _ _ _ _ _ _ _ _ _ _ _ _ _ _ _ _ _)
   | (with_reducible exact ih4 _ _ _ _ _ _ _ _ _ _ _ _ _ _ _ _ _)
   | (with_reducible exact ih5 _ _ _ _ _ _ _ _ _ _ _ _ _ _ _ _ _)
   | (with_reducible exact prebendref13_SameJob.mono _ _ _ _ _ _ _ _ _ _ _ _ _ _ _ _ _ _ _ _ _ _ _ _ _)
   | (with_reducible exact LeO.refl _)
   | (with_reducible exact LeO.none _)
   | (with_reducible refine LeO.ite ?_ ?_)
   | (with_reducible refine LeO.bind ?_ (fun _ => ?_))
   | exact ih0 _ _ _ _ _ _ _ _ _ _ _ _ _ _ _ _ _
   | exact ih1 _ _ _ _ _ _ _ _ _ _ _ _ _ _ _ _ _
   | exact ih2 _ _ _ _ _ _ _ _ _ _ _ _ _ _ _ _ _
   | exact ih3 _ _ _ _ _ _ _ _ _ _ _ _ _ _ _ _ _
   | exact ih4 _ _ _ _ _ _ _ _ _ _ _ _ _ _ _ _ _
   | exact ih5 _ _ _ _ _ _ _ _ _ _ _ _ _ _ _ _ _
   | exact prebendref13_SameJob.mono _ _ _ _ _ _ _ _ _ _ _ _ _ _ _ _ _ _ _ _ _ _ _ _ _
   | exact LeO.none _
   | refine LeO.ite ?_ ?_
   | refine LeO.bind ?_ (fun _ => ?_)
  ·intro y0 y1 y2 y3 y4 y5 y6 y7 y8 y9 y10 y11 y12 y13 y14 y15 y16
   unfold prebendref13_Same.l1
   repeat' first
   | (with_reducible exact ih0 _ _ _ _ _ _ _ _ _ _ _ _ _ _ _ _ _)
   | (with_reducible exact ih1 _ _ _ _ _ _ _ _ _ _ _ _ _ _ _ _ _)
   | (with_reducible exact ih2 _ _ _ _ _ _ _ _ _ _ _ _ _ _ _ _ _)
   | (with_reducible exact ih3 _ _ _ _ _ _ _ _ _ _ _ _ _ _ _ _ _)
   | (with_reducible exact ih4 _ _ _ _ _ _ _ _ _ _ _ _ _ _ _ _ _)
   | (with_reducible exact ih5 _ _ _ _ _ _ _ _ _ _ _ _ _ _ _ _ _)
   | (with_reducible exact prebendref13_SameJob.mono _ _ _ _ _ _ _ _ _ _ _ _ _ _ _ _ _ _ _ _ _ _ _ _ _)
   | (with_reducible exact LeO.refl _)
   | (with_reducible exact LeO.none _)
   | (with_reducible refine LeO.ite ?_ ?_)
   | (with_reducible refine LeO.bind ?_ (fun _ => ?_))
   | exact ih0 _ _ _ _ _ _ _ _ _ _ _ _ _ _ _ _ _
   | exact ih1 _ _ _ _ _ _ _ _ _ _ _ _ _ _ _ _ _
   | exact ih2 _ _ _ _ _ _ _ _ _ _ _ _ _ _ _ _ _
   | exact ih3 _ _ _ _ _ _ _ _ _ _ _ _ _ _ _ _ _
   | exact ih4 _ _ _ _ _ _ _ _ _ _ _ _ _ _ _ _ _
   | exact ih5 _ _ _ _ _ _ _ _ _ _ _ _ _ _ _ _ _
   | exact prebendref13_SameJob.mono _ _ _ _ _ _ _ _ _ _ _ _ _ _ _ _ _ _ _ _ _ _ _ _ _
   | exact LeO.none _
   | refine LeO.ite ?_ ?_
   | refine LeO.bind ?_ (fun _ => ?_)
  ·intro y0 y1 y2 y3 y4 y5 y6 y7 y8 y9 y10 y11 y12 y13 y14 y15 y16
   unfold prebendref13_Same.l2
   repeat' first
   | (with_reducible exact ih0 _ _ _ _ _ _ _ _ _ _ _ _ _ _ _ _ _)
   | (with_reducible exact ih1 _ _ _ _ _ _ _ _ _ _ _ _ _ _ _ _ _)
   | (with_reducible exact ih2 _ _ _ _ _ _ _ _ _ _ _ _ _ _ _ _ _)
   | (with_reducible exact ih3 _ _ _ _ _ _ _ _ _ _ _ _ _ _ _ _ _)
   | (with_reducible exact ih4 _ _ _ _ _ _ _ _ _ _ _ _ _ _ _ _ _)
   | (with_reducible exact ih5 _ _ _ _ _ _ _ _ _ _ _ _ _ _ _ _ _)
   | (with_reducible exact prebendref13_SameJob.mono _ _ _ _ _ _ _ _ _ _ _ _ _ _ _ _ _ _ _ _ _ _ _ _ _)
   | (with_reducible exact LeO.refl _)
   | (with_reducible exact LeO.none _)
   | (with_reducible refine LeO.ite ?_ ?_)
   | (with_reducible refine LeO.bind ?_ (fun _ => ?_))
   | exact ih0 _ _ _ _ _ _ _ _ _ _ _ _ _ _ _ _ _
   | exact ih1 _ _ _ _ _ _ _ _ _ _ _ _ _ _ _ _ _
   | exact ih2 _ _ _ _ _ _ _ _ _ _ _ _ _ _ _ _ _
   | exact ih3 _ _ _ _ _ _ _ _ _ _ _ _ _ _ _ _ _
   | exact ih4 _ _ _ _ _ _ _ _ _ _ _ _ _ _ _ _ _
   | exact ih5 _ _ _ _ _ _ _ _ _ _ _ _ _ _ _ _ _
   | exact prebendref13_SameJob.mono _ _ _ _ _ _ _ _ _ _ _ _ _ _ _ _ _ _ _ _ _ _ _ _ _
   | exact LeO.none _
   | refine LeO.ite ?_ ?_
   | refine LeO.bind ?_ (fun _ => ?_)
  ·intro y0 y1 y2 y3 y4 y5 y6 y7 y8 y9 y10 y11 y12 y13 y14 y15 y16
   unfold prebendref13_Same.l3
   repeat' first
   | (with_reducible exact ih0 _ _ _ _ _ _ _ _ _ _ _ _ _ _ _ _ _)
   | (with_reducible exact ih1 _ _ _ _ _ _ _ _ _ _ _ _ _ _ _ _ _)
   | (with_reducible exact ih2 _ _ _ _ _ _ _ _ _ _ _ _ _ _ _ _ _)
   | (with_reducible exact ih3 _ _ _ _ _ _ _ _ _ _ _ _ _ _ _ _ _)
   | (with_reducible exact ih4 _ _ _ _ _ _ _ _ _ _ _ _ _ _ _ _ _)
   | (with_reducible exact ih5 _ _ _ _ _ _ _ _ _ _ _ _ _ _ _ _ _)
   | (with_reducible exact prebendref13_SameJob.mono _ _ _ _ _ _ _ _ _ _ _ _ _ _ _ _ _ _ _ _ _ _ _ _ _)
   | (with_reducible exact LeO.refl _)
   | (with_reducible exact LeO.none _)
   | (with_reducible refine LeO.ite ?_ ?_)
   | (with_reducible refine LeO.bind ?_ (fun _ => ?_))
   | exact ih0 _ _ _ _ _ _ _ _ _ _ _ _ _ _ _ _ _
   | exact ih1 _ _ _ _ _ _ _ _ _ _ _ _ _ _ _ _ _
   | exact ih2 _ _ _ _ _ _ _ _ _ _ _ _ _ _ _ _ _
   | exact ih3 _ _ _ _ _ _ _ _ _ _ _ _ _ _ _ _ _
   | exact ih4 _ _ _ _ _ _ _ _ _ _ _ _ _ _ _ _ _
   | exact ih5 _ _ _ _ _ _ _ _ _ _ _ _ _ _ _ _ _
   | exact prebendref13_SameJob.mono _ _ _ _ _ _ _ _ _ _ _ _ _ _ _ _ _ _ _ _ _ _ _ _ _
   | exact LeO.none _
   | refine LeO.ite ?_ ?_
   | refine LeO.bind ?_ (fun _ => ?_)
  ·intro y0 y1 y2 y3 y4 y5 y6 y7 y8 y9 y10 y11 y12 y13 y14 y15 y16
   unfold prebendref13_Same.l4
   repeat' first
   | (with_reducible exact ih0 _ _ _ _ _ _ _ _ _ _ _ _ _ _ _ _ _)
   | (with_reducible exact ih1 _ _ _ _ _ _ _ _ _ _ _ _ _ _ _ _ _)
   | (with_reducible exact ih2 _ _ _ _ _ _ _ _ _ _ _ _ _ _ _ _ _)
   | (with_reducible exact ih3 _ _ _ _ _ _ _ _ _ _ _ _ _ _ _ _ _)
   | (with_reducible exact ih4 _ _ _ _ _ _ _ _ _ _ _ _ _ _ _ _ _)
   | (with_reducible exact ih5 _ _ _ _ _ _ _ _ _ _ _ _ _ _ _ _ _)
   | (with_reducible exact prebendref13_SameJob.mono _ _ _ _ _ _ _ _ _ _ _ _ _ _ _ _ _ _ _ _ _ _ _ _ _)
   | (with_reducible exact LeO.refl _)
   | (with_reducible exact LeO.none _)
   | (with_reducible refine LeO.ite ?_ ?_)
   | (with_reducible refine LeO.bind ?_ (fun _ => ?_))
   | exact ih0 _ _ _ _ _ _ _ _ _ _ _ _ _ _ _ _ _
   | exact ih1 _ _ _ _ _ _ _ _ _ _ _ _ _ _ _ _ _
   | exact ih2 _ _ _ _ _ _ _ _ _ _ _ _ _ _ _ _ _
   | exact ih3 _ _ _ _ _ _ _ _ _ _ _ _ _ _ _ _ _
   | exact ih4 _ _ _ _ _ _ _ _ _ _ _ _ _ _ _ _ _
   | exact ih5 _ _ _ _ _ _ _ _ _ _ _ _ _ _ _ _ _
   | exact prebendref13_SameJob.mono _ _ _ _ _ _ _ _ _ _ _ _ _ _ _ _ _ _ _ _ _ _ _ _ _
   | exact LeO.none _
   | refine LeO.ite ?_ ?_
   | refine LeO.bind ?_ (fun _ => ?_)
theorem prebendref13_Same.mono : ∀ a0 a1 a2 a3 a4 a5 a6 a7 a8 a9 a10 a11 a12 a13 a14 a15 k, LeO (prebendref13_Same.f k a0 a1 a2 a3 a4 a5 a6 a7 a8 a9 a10 a11 a12 a13 a14 a15) (prebendref13_Same.f (k + 1) a0 a1 a2 a3 a4 a5 a6 a7 a8 a9 a10 a11 a12 a13 a14 a15) := by
 intro a0 a1 a2 a3 a4 a5 a6 a7 a8 a9 a10 a11 a12 a13 a14 a15 k
 obtain ⟨ih0, ih1, ih2, ih3, ih4, ih5⟩ := prebendref13_Same.mono_l k
 unfold prebendref13_Same.f
 repeat' first
   | (with_reducible exact ih0 _ _ _ _ _ _ _ _ _ _ _ _ _ _ _ _ _)
   | (with_reducible exact ih1 _ _ _ _ _ _ _ _ _ _ _ _ _ _ _ _ _)
   | (with_reducible exact ih2 _ _ _ _ _ _ _ _ _ _ _ _ _ _ _ _ _)
   | (with_reducible exact ih3 _ _ _ _ _ _ _ _ _ _ _ _ _ _ _ _ _)
   | (with_reducible exact ih4 _ _ _ _ _ _ _ _ _ _ _ _ _ _ _ _ _)
   | (with_reducible exact ih5 _ _ _ _ _ _ _ _ _ _ _ _ _ _ _ _ _)
   | (with_reducible exact prebendref13_SameJob.mono _ _ _ _ _ _ _ _ _ _ _ _ _ _ _ _ _ _ _ _ _ _ _ _ _)
   | (with_reducible exact LeO.refl _)
   | (with_reducible exact LeO.none _)
   | (with_reducible refine LeO.ite ?_ ?_)
   | (with_reducible refine LeO.bind ?_ (fun _ => ?_))
   | exact ih0 _ _ _ _ _ _ _ _ _ _ _ _ _ _ _ _ _
   | exact ih1 _ _ _ _ _ _ _ _ _ _ _ _ _ _ _ _ _
   | exact ih2 _ _ _ _ _ _ _ _ _ _ _ _ _ _ _ _ _
   | exact ih3 _ _ _ _ _ _ _ _ _ _ _ _ _ _ _ _ _
   | exact ih4 _ _ _ _ _ _ _ _ _ _ _ _ _ _ _ _ _
   | exact ih5 _ _ _ _ _ _ _ _ _ _ _ _ _ _ _ _ _
   | exact prebendref13_SameJob.mono _ _ _ _ _ _ _ _ _ _ _ _ _ _ _ _ _ _ _ _ _ _ _ _ _
   | exact LeO.none _
   | refine LeO.ite ?_ ?_
   | refine LeO.bind ?_ (fun _ => ?_)
def prebendref13_Same.T6 : Bool × List (List Nat × List Nat) := (true, [([], []), ([0], [0]), ([], []), ([1, 2], [1, 2]), ([3], [3]), ([], []), ([5], [5]), ([], []), ([6, 7], [6, 7]), ([8], [8]), ([4, 9], [4, 9])])
def prebendref13_Same.B6 : List Nat := [0, 1, 0, 7, 15, 0, 32, 0, 224, 480, 1023]
theorem prebendref13_Same.tab6 : rtab .any (opsOf Try.f38 6) = prebendref13_Same.T6 := by kernel_rfl
theorem prebendref13_Same.bits6 : waitsOk prebendref13_Same.T6.2 prebendref13_Same.B6 = true := by kernel_rfl
def prebendref13_Same.T11 : Bool × List (List Nat × List Nat) := (true, [([], []), ([0], [0]), ([], []), ([1, 2], [1, 2]), ([3], [3]), ([], []), ([5], [5]), ([], []), ([6, 7], [6, 7]), ([8], [8]), ([4, 9], [4, 9])])
def prebendref13_Same.B11 : List Nat := [0, 1, 0, 7, 15, 0, 32, 0, 224, 480, 1023]
theorem prebendref13_Same.tab11 : rtab .any (opsOf Try.f38 11) = prebendref13_Same.T11 := by kernel_rfl
theorem prebendref13_Same.bits11 : waitsOk prebendref13_Same.T11.2 prebendref13_Same.B11 = true := by kernel_rfl
def prebendref13_Same.T16 : Bool × List (List Nat × List Nat) := (true, [([], []), ([0], [0]), ([], []), ([1, 2], [1, 2]), ([3], [3]), ([], []), ([5], [5]), ([], []), ([6, 7], [6, 7]), ([8], [8]), ([4, 9], [4, 9])])
def prebendref13_Same.B16 : List Nat := [0, 1, 0, 7, 15, 0, 32, 0, 224, 480, 1023]
theorem prebendref13_Same.tab16 : rtab .any (opsOf Try.f38 16) = prebendref13_Same.T16 := by kernel_rfl
theorem prebendref13_Same.bits16 : waitsOk prebendref13_Same.T16.2 prebendref13_Same.B16 = true := by kernel_rfl
def prebendref13_Same.T21 : Bool × List (List Nat × List Nat) := (true, [([], []), ([0], [0]), ([], []), ([1, 2], [1, 2]), ([3], [3]), ([], []), ([5], [5]), ([], []), ([6, 7], [6, 7]), ([8], [8]), ([4, 9], [4, 9]), ([10], [10])])
def prebendref13_Same.B21 : List Nat := [0, 1, 0, 7, 15, 0, 32, 0, 224, 480, 1023, 2047]
theorem prebendref13_Same.tab21 : rtab .any (opsOf Try.f38 21) = prebendref13_Same.T21 := by kernel_rfl
theorem prebendref13_Same.bits21 : waitsOk prebendref13_Same.T21.2 prebendref13_Same.B21 = true := by kernel_rfl
def prebendref13_Same.T26 : Bool × List (List Nat × List Nat) := (true, [([], []), ([0], [0]), ([], []), ([1, 2], [1, 2]), ([3], [3]), ([], []), ([5], [5]), ([], []), ([6, 7], [6, 7]), ([8], [8]), ([4, 9], [4, 9])])
def prebendref13_Same.B26 : List Nat := [0, 1, 0, 7, 15, 0, 32, 0, 224, 480, 1023]
theorem prebendref13_Same.tab26 : rtab .any (opsOf Try.f38 26) = prebendref13_Same.T26 := by kernel_rfl
theorem prebendref13_Same.bits26 : waitsOk prebendref13_Same.T26.2 prebendref13_Same.B26 = true := by kernel_rfl
set_option maxHeartbeats 8000000 in
set_option maxRecDepth 100000 in
theorem prebendref13_Same.calls (k : Nat) (a0_0 : Int) (a0_1 : Int) (a0_2 : Int) (A0_3 : Option Addr) (c0_3 : Nat) (l0_3 : List (S93)) (A0_4 : Option Addr) (c0_4 : Nat) (l0_4 : List (S95)) (A0_5 : Option Addr) (c0_5 : Nat) (l0_5 : List (S97)) (A0_6 : Option Addr) (c0_6 : Nat) (l0_6 : List (S100)) (A0_7 : Option Addr) (c0_7 : Nat) (l0_7 : List ByteArray) (a1_0 : Int) (a1_1 : Int) (a1_2 : Int) (A1_3 : Option Addr) (c1_3 : Nat) (l1_3 : List (S93)) (A1_4 : Option Addr) (c1_4 : Nat) (l1_4 : List (S95)) (A1_5 : Option Addr) (c1_5 : Nat) (l1_5 : List (S97)) (A1_6 : Option Addr) (c1_6 : Nat) (l1_6 : List (S100)) (A1_7 : Option Addr) (c1_7 : Nat) (l1_7 : List ByteArray) (r : Bool) (w : World) (hr0_3 : Kd.C k93 w A0_3 l0_3.length l0_3) (hc0_3 : l0_3.length ≤ c0_3) (hr0_4 : Kd.C k95 w A0_4 l0_4.length l0_4) (hc0_4 : l0_4.length ≤ c0_4) (hr0_5 : Kd.C k97 w A0_5 l0_5.length l0_5) (hc0_5 : l0_5.length ≤ c0_5) (hr0_6 : Kd.C k100 w A0_6 l0_6.length l0_6) (hc0_6 : l0_6.length ≤ c0_6) (hr0_7 : Kd.C Kd.string w A0_7 l0_7.length l0_7) (hc0_7 : l0_7.length ≤ c0_7) (hr1_3 : Kd.C k93 w A1_3 l1_3.length l1_3) (hc1_3 : l1_3.length ≤ c1_3) (hr1_4 : Kd.C k95 w A1_4 l1_4.length l1_4) (hc1_4 : l1_4.length ≤ c1_4) (hr1_5 : Kd.C k97 w A1_5 l1_5.length l1_5) (hc1_5 : l1_5.length ≤ c1_5) (hr1_6 : Kd.C k100 w A1_6 l1_6.length l1_6) (hc1_6 : l1_6.length ≤ c1_6) (hr1_7 : Kd.C Kd.string w A1_7 l1_7.length l1_7) (hc1_7 : l1_7.length ≤ c1_7) (h : prebendref13_Same.f k a0_0 a0_1 a0_2 l0_3 l0_4 l0_5 l0_6 l0_7 a1_0 a1_1 a1_2 l1_3 l1_4 l1_5 l1_6 l1_7 = some r) :
  Calls Try.prog 38 #[.agg #[.int .i64 a0_0, .int .i64 a0_1, .int .i64 a0_2, .slice A0_3 l0_3.length c0_3, .slice A0_4 l0_4.length c0_4, .slice A0_5 l0_5.length c0_5, .slice A0_6 l0_6.length c0_6, .slice A0_7 l0_7.length c0_7], .agg #[.int .i64 a1_0, .int .i64 a1_1, .int .i64 a1_2, .slice A1_3 l1_3.length c1_3, .slice A1_4 l1_4.length c1_4, .slice A1_5 l1_5.length c1_5, .slice A1_6 l1_6.length c1_6, .slice A1_7 l1_7.length c1_7]] w fun e w' => e = .returned (.bool r) ∧ Below w.heap.size w w' := by
 have hu67 := Try.underlying67
 have hu93 := Try.underlying93
 have hu95 := Try.underlying95
 have hu97 := Try.underlying97
 have hu100 := Try.underlying100
 have HR0_3 := Aside0.mk hr0_3
 have HC0_3 := Aside0.mk hc0_3
 clear hr0_3 hc0_3
 have HR0_4 := Aside0.mk hr0_4
 have HC0_4 := Aside0.mk hc0_4
 clear hr0_4 hc0_4
 have HR0_5 := Aside0.mk hr0_5
 have HC0_5 := Aside0.mk hc0_5
 clear hr0_5 hc0_5
 have HR0_6 := Aside0.mk hr0_6
 have HC0_6 := Aside0.mk hc0_6
 clear hr0_6 hc0_6
 have HR0_7 := Aside0.mk hr0_7
 have HC0_7 := Aside0.mk hc0_7
 clear hr0_7 hc0_7
 have HR1_3 := Aside0.mk hr1_3
 have HC1_3 := Aside0.mk hc1_3
 clear hr1_3 hc1_3
 have HR1_4 := Aside0.mk hr1_4
 have HC1_4 := Aside0.mk hc1_4
 clear hr1_4 hc1_4
 have HR1_5 := Aside0.mk hr1_5
 have HC1_5 := Aside0.mk hc1_5
 clear hr1_5 hc1_5
 have HR1_6 := Aside0.mk hr1_6
 have HC1_6 := Aside0.mk hc1_6
 clear hr1_6 hc1_6
 have HR1_7 := Aside0.mk hr1_7
 have HC1_7 := Aside0.mk hc1_7
 clear hr1_7 hc1_7
 have HB := Aside0.mk (Below.refl w.heap.size w)
 have H : (if a0_0 = a1_0 then (if a0_1 = a1_1 then (if a0_2 = a1_2 then (if (l0_3.length : Int) = (l1_3.length : Int) then (if (l0_4.length : Int) = (l1_4.length : Int) then (if (l0_5.length : Int) = (l1_5.length : Int) then (if (l0_6.length : Int) = (l1_6.length : Int) then (prebendref13_Same.j0 k ((l0_7.length : Int) != (l1_7.length : Int)) a0_0 a0_1 a0_2 l0_3 l0_4 l0_5 l0_6 l0_7 a1_0 a1_1 a1_2 l1_3 l1_4 l1_5 l1_6 l1_7) else (prebendref13_Same.j0 k true a0_0 a0_1 a0_2 l0_3 l0_4 l0_5 l0_6 l0_7 a1_0 a1_1 a1_2 l1_3 l1_4 l1_5 l1_6 l1_7)) else (prebendref13_Same.j0 k true a0_0 a0_1 a0_2 l0_3 l0_4 l0_5 l0_6 l0_7 a1_0 a1_1 a1_2 l1_3 l1_4 l1_5 l1_6 l1_7)) else (prebendref13_Same.j0 k true a0_0 a0_1 a0_2 l0_3 l0_4 l0_5 l0_6 l0_7 a1_0 a1_1 a1_2 l1_3 l1_4 l1_5 l1_6 l1_7)) else (prebendref13_Same.j0 k true a0_0 a0_1 a0_2 l0_3 l0_4 l0_5 l0_6 l0_7 a1_0 a1_1 a1_2 l1_3 l1_4 l1_5 l1_6 l1_7)) else (prebendref13_Same.j0 k true a0_0 a0_1 a0_2 l0_3 l0_4 l0_5 l0_6 l0_7 a1_0 a1_1 a1_2 l1_3 l1_4 l1_5 l1_6 l1_7)) else (prebendref13_Same.j0 k true a0_0 a0_1 a0_2 l0_3 l0_4 l0_5 l0_6 l0_7 a1_0 a1_1 a1_2 l1_3 l1_4 l1_5 l1_6 l1_7)) else (prebendref13_Same.j0 k true a0_0 a0_1 a0_2 l0_3 l0_4 l0_5 l0_6 l0_7 a1_0 a1_1 a1_2 l1_3 l1_4 l1_5 l1_6 l1_7)) = some r := h
 clear h
 have HC3 := Aside0.mk H
 clear H
 go_enter Try.func38, Try.ntmps38
 go_upto_region 1 with (first | ((with_reducible refine gate_dst (N := 2) rfl ?_); (try (refine gate_guard (by rfl) ?_; dsimp only)); refine box_event ?hg (N := 2) ?hd (cs := #[.int .i64 a0_0, .int .i64 a0_1, .int .i64 a0_2, .slice A0_3 l0_3.length c0_3, .slice A0_4 l0_4.length c0_4, .slice A0_5 l0_5.length c0_5, .slice A0_6 l0_6.length c0_6, .slice A0_7 l0_7.length c0_7]) (t := 67) ?hr ?_; (case hd => rfl); (case hg => rfl); (case hr => first | (go_simp; done) | (go_simp; rfl)); intro gb623 hg w4 hbox hb; have n0_ := Aside0.mk (below_step (mB HB.out) hb); have n1_ := Aside0.mk (hbox); have n2_ := Aside0.mk ((by rw [hg]; exact (below_size (mB HB.out)) : w.heap.size ≤ gb623)); have n3_ := Aside0.mk ((by rw [hg]; exact (below_size (mB HB.out)) : w.heap.size ≤ gb623)); clear HB; have HB := n0_; have BK623 := n1_; have GW623 := n2_; have GE623 := n3_; clear n0_ n1_ n2_ n3_ hb hbox hg) | ((with_reducible refine gate_dst (N := 3) rfl ?_); (try (refine gate_guard (by rfl) ?_; dsimp only)); refine box_event ?hg (N := 3) ?hd (cs := #[.int .i64 a1_0, .int .i64 a1_1, .int .i64 a1_2, .slice A1_3 l1_3.length c1_3, .slice A1_4 l1_4.length c1_4, .slice A1_5 l1_5.length c1_5, .slice A1_6 l1_6.length c1_6, .slice A1_7 l1_7.length c1_7]) (t := 67) ?hr ?_; (case hd => rfl); (case hg => rfl); (case hr => first | (go_simp; done) | (go_simp; rfl)); intro gb624 hg w5 hbox hb; have n0_ := Aside0.mk (blk_below (g := gb623) (o := .cells #[.int .i64 a0_0, .int .i64 a0_1, .int .i64 a0_2, .slice A0_3 l0_3.length c0_3, .slice A0_4 l0_4.length c0_4, .slice A0_5 l0_5.length c0_5, .slice A0_6 l0_6.length c0_6, .slice A0_7 l0_7.length c0_7] 67 (0, 0)) (mBK BK623.out) hb); have n1_ := Aside0.mk (below_step (mBs HB.out) hb); have n2_ := Aside0.mk (hbox); have n3_ := Aside0.mk ((by rw [hg]; exact (below_size (mBs HB.out)) : w.heap.size ≤ gb624)); have n4_ := Aside0.mk ((by rw [hg]; exact (below_size (mBs HB.out)) : w.heap.size ≤ gb624)); have n5_ := Aside0.mk ((by rw [hg]; exact Nat.ne_of_lt (blk_lt (g := gb623) (o := .cells #[.int .i64 a0_0, .int .i64 a0_1, .int .i64 a0_2, .slice A0_3 l0_3.length c0_3, .slice A0_4 l0_4.length c0_4, .slice A0_5 l0_5.length c0_5, .slice A0_6 l0_6.length c0_6, .slice A0_7 l0_7.length c0_7] 67 (0, 0)) (mBK BK623.out)) : gb623 ≠ gb624)); have n6_ := Aside0.mk ((by rw [hg]; exact Nat.ne_of_gt (blk_lt (g := gb623) (o := .cells #[.int .i64 a0_0, .int .i64 a0_1, .int .i64 a0_2, .slice A0_3 l0_3.length c0_3, .slice A0_4 l0_4.length c0_4, .slice A0_5 l0_5.length c0_5, .slice A0_6 l0_6.length c0_6, .slice A0_7 l0_7.length c0_7] 67 (0, 0)) (mBK BK623.out)) : gb624 ≠ gb623)); clear BK623 HB; have BK623 := n0_; have HB := n1_; have BK624 := n2_; have GW624 := n3_; have GE624 := n4_; have NB623_624 := n5_; have NB624_623 := n6_; clear n0_ n1_ n2_ n3_ n4_ n5_ n6_ hb hbox hg))
 (try simp only [Act.put, List.setIfInBounds_toArray, List.set_cons_zero, List.set_cons_succ])
 go_cut [73] (fun v73 wc => ∃ (kq : Nat) (x73_2 : Bool), v73 = .bool x73_2 ∧ Aside0 (prebendref13_Same.j0 kq x73_2 a0_0 a0_1 a0_2 l0_3 l0_4 l0_5 l0_6 l0_7 a1_0 a1_1 a1_2 l1_3 l1_4 l1_5 l1_6 l1_7 = some r) ∧ Aside0 (kq ≤ k) ∧ Aside0 (wc.heap[gb623]? = some (.cells #[.int .i64 a0_0, .int .i64 a0_1, .int .i64 a0_2, (.slice A0_3 l0_3.length c0_3), (.slice A0_4 l0_4.length c0_4), (.slice A0_5 l0_5.length c0_5), (.slice A0_6 l0_6.length c0_6), (.slice A0_7 l0_7.length c0_7)] 67 (0, 0))) ∧ Aside0 (wc.heap[gb624]? = some (.cells #[.int .i64 a1_0, .int .i64 a1_1, .int .i64 a1_2, (.slice A1_3 l1_3.length c1_3), (.slice A1_4 l1_4.length c1_4), (.slice A1_5 l1_5.length c1_5), (.slice A1_6 l1_6.length c1_6), (.slice A1_7 l1_7.length c1_7)] 67 (0, 0))) ∧ Aside0 (Below w.heap.size w wc))
 case first =>
  have H := HC3.out
  clear HC3
  by_cases c6 : a0_0 = a1_0
  ·rw [if_pos c6] at H
   have c6b0 : (a0_0 == a1_0) = true := beq_iff_eq.mpr c6
   have c6b1 : (a0_0 != a1_0) = false := bne_eq_false_iff_eq.mpr c6
   clear c6
   (first | rw [c6b0] | (simp only [i64_w, i32_w]; rw [c6b0]) | skip)
   by_cases c7 : a0_1 = a1_1
   ·rw [if_pos c7] at H
    have c7b0 : (a0_1 == a1_1) = true := beq_iff_eq.mpr c7
    have c7b1 : (a0_1 != a1_1) = false := bne_eq_false_iff_eq.mpr c7
    clear c7
    by_cases c8 : a0_2 = a1_2
    ·rw [if_pos c8] at H
     have c8b0 : (a0_2 == a1_2) = true := beq_iff_eq.mpr c8
     have c8b1 : (a0_2 != a1_2) = false := bne_eq_false_iff_eq.mpr c8
     clear c8
     by_cases c9 : (l0_3.length : Int) = (l1_3.length : Int)
     ·rw [if_pos c9] at H
      have c9b0 : ((l0_3.length : Int) == (l1_3.length : Int)) = true := beq_iff_eq.mpr c9
      have c9b1 : ((l0_3.length : Int) != (l1_3.length : Int)) = false := bne_eq_false_iff_eq.mpr c9
      have c9b2 : (l0_3.length == l1_3.length) = true := by first | simpa using c9 | (simp at c9 ⊢; omega)
      clear c9
      by_cases c10 : (l0_4.length : Int) = (l1_4.length : Int)
      ·rw [if_pos c10] at H
       have c10b0 : ((l0_4.length : Int) == (l1_4.length : Int)) = true := beq_iff_eq.mpr c10
       have c10b1 : ((l0_4.length : Int) != (l1_4.length : Int)) = false := bne_eq_false_iff_eq.mpr c10
       have c10b2 : (l0_4.length == l1_4.length) = true := by first | simpa using c10 | (simp at c10 ⊢; omega)
       clear c10
       by_cases c11 : (l0_5.length : Int) = (l1_5.length : Int)
       ·rw [if_pos c11] at H
        have c11b0 : ((l0_5.length : Int) == (l1_5.length : Int)) = true := beq_iff_eq.mpr c11
        have c11b1 : ((l0_5.length : Int) != (l1_5.length : Int)) = false := bne_eq_false_iff_eq.mpr c11
        have c11b2 : (l0_5.length == l1_5.length) = true := by first | simpa using c11 | (simp at c11 ⊢; omega)
        clear c11
        by_cases c12 : (l0_6.length : Int) = (l1_6.length : Int)
        ·rw [if_pos c12] at H
         have c12b0 : ((l0_6.length : Int) == (l1_6.length : Int)) = true := beq_iff_eq.mpr c12
         have c12b1 : ((l0_6.length : Int) != (l1_6.length : Int)) = false := bne_eq_false_iff_eq.mpr c12
         have c12b2 : (l0_6.length == l1_6.length) = true := by first | simpa using c12 | (simp at c12 ⊢; omega)
         clear c12
         have H' := Aside0.mk H
         clear H
         have hnb13 := NB623_624.out
         have hnc13 := NB624_623.out
         have hcz14_0 : w5.cell? ⟨gb623, 0, none⟩ = some (.int .i64 a0_0) := (blk_cell BK623.out 0).trans rfl
         have hcz14_1 : w5.cell? ⟨gb623, 1, none⟩ = some (.int .i64 a0_1) := (blk_cell BK623.out 1).trans rfl
         have hcz14_2 : w5.cell? ⟨gb623, 2, none⟩ = some (.int .i64 a0_2) := (blk_cell BK623.out 2).trans rfl
         have hcz14_3 : w5.cell? ⟨gb623, 3, none⟩ = some (.slice A0_3 l0_3.length c0_3) := (blk_cell BK623.out 3).trans rfl
         have hcz14_4 : w5.cell? ⟨gb623, 4, none⟩ = some (.slice A0_4 l0_4.length c0_4) := (blk_cell BK623.out 4).trans rfl
         have hcz14_5 : w5.cell? ⟨gb623, 5, none⟩ = some (.slice A0_5 l0_5.length c0_5) := (blk_cell BK623.out 5).trans rfl
         have hcz14_6 : w5.cell? ⟨gb623, 6, none⟩ = some (.slice A0_6 l0_6.length c0_6) := (blk_cell BK623.out 6).trans rfl
         have hcz14_7 : w5.cell? ⟨gb623, 7, none⟩ = some (.slice A0_7 l0_7.length c0_7) := (blk_cell BK623.out 7).trans rfl
         have hfz14_0 := blk_frozen BK623.out 0
         have hfz14_1 := blk_frozen BK623.out 1
         have hfz14_2 := blk_frozen BK623.out 2
         have hfz14_3 := blk_frozen BK623.out 3
         have hfz14_4 := blk_frozen BK623.out 4
         have hfz14_5 := blk_frozen BK623.out 5
         have hfz14_6 := blk_frozen BK623.out 6
         have hfz14_7 := blk_frozen BK623.out 7
         have hcz15_0 : w5.cell? ⟨gb624, 0, none⟩ = some (.int .i64 a1_0) := (blk_cell BK624.out 0).trans rfl
         have hcz15_1 : w5.cell? ⟨gb624, 1, none⟩ = some (.int .i64 a1_1) := (blk_cell BK624.out 1).trans rfl
         have hcz15_2 : w5.cell? ⟨gb624, 2, none⟩ = some (.int .i64 a1_2) := (blk_cell BK624.out 2).trans rfl
         have hcz15_3 : w5.cell? ⟨gb624, 3, none⟩ = some (.slice A1_3 l1_3.length c1_3) := (blk_cell BK624.out 3).trans rfl
         have hcz15_4 : w5.cell? ⟨gb624, 4, none⟩ = some (.slice A1_4 l1_4.length c1_4) := (blk_cell BK624.out 4).trans rfl
         have hcz15_5 : w5.cell? ⟨gb624, 5, none⟩ = some (.slice A1_5 l1_5.length c1_5) := (blk_cell BK624.out 5).trans rfl
         have hcz15_6 : w5.cell? ⟨gb624, 6, none⟩ = some (.slice A1_6 l1_6.length c1_6) := (blk_cell BK624.out 6).trans rfl
         have hcz15_7 : w5.cell? ⟨gb624, 7, none⟩ = some (.slice A1_7 l1_7.length c1_7) := (blk_cell BK624.out 7).trans rfl
         have hfz15_0 := blk_frozen BK624.out 0
         have hfz15_1 := blk_frozen BK624.out 1
         have hfz15_2 := blk_frozen BK624.out 2
         have hfz15_3 := blk_frozen BK624.out 3
         have hfz15_4 := blk_frozen BK624.out 4
         have hfz15_5 := blk_frozen BK624.out 5
         have hfz15_6 := blk_frozen BK624.out 6
         have hfz15_7 := blk_frozen BK624.out 7
         go_wp2
         go_meet
         case rel => exact ⟨_, (((l0_7.length : Int) != (l1_7.length : Int))), ez, H', ⟨by first | omega | exact Nat.le_refl _⟩, ⟨mBK BK623.out⟩, ⟨mBK BK624.out⟩, ⟨mBs HB.out⟩⟩
        ·rw [if_neg c12] at H
         have c12b0 : ((l0_6.length : Int) == (l1_6.length : Int)) = false := beq_eq_false_iff_ne.mpr c12
         have c12b1 : ((l0_6.length : Int) != (l1_6.length : Int)) = true := bne_iff_ne.mpr c12
         have c12b2 : (l0_6.length == l1_6.length) = false := by first | simpa using c12 | (simp at c12 ⊢; omega)
         have H' := Aside0.mk H
         clear H
         have hnb16 := NB623_624.out
         have hnc16 := NB624_623.out
         have hcz17_0 : w5.cell? ⟨gb623, 0, none⟩ = some (.int .i64 a0_0) := (blk_cell BK623.out 0).trans rfl
         have hcz17_1 : w5.cell? ⟨gb623, 1, none⟩ = some (.int .i64 a0_1) := (blk_cell BK623.out 1).trans rfl
         have hcz17_2 : w5.cell? ⟨gb623, 2, none⟩ = some (.int .i64 a0_2) := (blk_cell BK623.out 2).trans rfl
         have hcz17_3 : w5.cell? ⟨gb623, 3, none⟩ = some (.slice A0_3 l0_3.length c0_3) := (blk_cell BK623.out 3).trans rfl
         have hcz17_4 : w5.cell? ⟨gb623, 4, none⟩ = some (.slice A0_4 l0_4.length c0_4) := (blk_cell BK623.out 4).trans rfl
         have hcz17_5 : w5.cell? ⟨gb623, 5, none⟩ = some (.slice A0_5 l0_5.length c0_5) := (blk_cell BK623.out 5).trans rfl
         have hcz17_6 : w5.cell? ⟨gb623, 6, none⟩ = some (.slice A0_6 l0_6.length c0_6) := (blk_cell BK623.out 6).trans rfl
         have hcz17_7 : w5.cell? ⟨gb623, 7, none⟩ = some (.slice A0_7 l0_7.length c0_7) := (blk_cell BK623.out 7).trans rfl
         have hfz17_0 := blk_frozen BK623.out 0
         have hfz17_1 := blk_frozen BK623.out 1
         have hfz17_2 := blk_frozen BK623.out 2
         have hfz17_3 := blk_frozen BK623.out 3
         have hfz17_4 := blk_frozen BK623.out 4
         have hfz17_5 := blk_frozen BK623.out 5
         have hfz17_6 := blk_frozen BK623.out 6
         have hfz17_7 := blk_frozen BK623.out 7
         have hcz18_0 : w5.cell? ⟨gb624, 0, none⟩ = some (.int .i64 a1_0) := (blk_cell BK624.out 0).trans rfl
         have hcz18_1 : w5.cell? ⟨gb624, 1, none⟩ = some (.int .i64 a1_1) := (blk_cell BK624.out 1).trans rfl
         have hcz18_2 : w5.cell? ⟨gb624, 2, none⟩ = some (.int .i64 a1_2) := (blk_cell BK624.out 2).trans rfl
         have hcz18_3 : w5.cell? ⟨gb624, 3, none⟩ = some (.slice A1_3 l1_3.length c1_3) := (blk_cell BK624.out 3).trans rfl
         have hcz18_4 : w5.cell? ⟨gb624, 4, none⟩ = some (.slice A1_4 l1_4.length c1_4) := (blk_cell BK624.out 4).trans rfl
         have hcz18_5 : w5.cell? ⟨gb624, 5, none⟩ = some (.slice A1_5 l1_5.length c1_5) := (blk_cell BK624.out 5).trans rfl
         have hcz18_6 : w5.cell? ⟨gb624, 6, none⟩ = some (.slice A1_6 l1_6.length c1_6) := (blk_cell BK624.out 6).trans rfl
         have hcz18_7 : w5.cell? ⟨gb624, 7, none⟩ = some (.slice A1_7 l1_7.length c1_7) := (blk_cell BK624.out 7).trans rfl
         have hfz18_0 := blk_frozen BK624.out 0
         have hfz18_1 := blk_frozen BK624.out 1
         have hfz18_2 := blk_frozen BK624.out 2
         have hfz18_3 := blk_frozen BK624.out 3
         have hfz18_4 := blk_frozen BK624.out 4
         have hfz18_5 := blk_frozen BK624.out 5
         have hfz18_6 := blk_frozen BK624.out 6
         have hfz18_7 := blk_frozen BK624.out 7
         go_wp2
         go_meet
         case rel => exact ⟨_, (true), ez, H', ⟨by first | omega | exact Nat.le_refl _⟩, ⟨mBK BK623.out⟩, ⟨mBK BK624.out⟩, ⟨mBs HB.out⟩⟩
       ·rw [if_neg c11] at H
        have c11b0 : ((l0_5.length : Int) == (l1_5.length : Int)) = false := beq_eq_false_iff_ne.mpr c11
        have c11b1 : ((l0_5.length : Int) != (l1_5.length : Int)) = true := bne_iff_ne.mpr c11
        have c11b2 : (l0_5.length == l1_5.length) = false := by first | simpa using c11 | (simp at c11 ⊢; omega)
        have H' := Aside0.mk H
        clear H
        have hnb19 := NB623_624.out
        have hnc19 := NB624_623.out
        have hcz20_0 : w5.cell? ⟨gb623, 0, none⟩ = some (.int .i64 a0_0) := (blk_cell BK623.out 0).trans rfl
        have hcz20_1 : w5.cell? ⟨gb623, 1, none⟩ = some (.int .i64 a0_1) := (blk_cell BK623.out 1).trans rfl
        have hcz20_2 : w5.cell? ⟨gb623, 2, none⟩ = some (.int .i64 a0_2) := (blk_cell BK623.out 2).trans rfl
        have hcz20_3 : w5.cell? ⟨gb623, 3, none⟩ = some (.slice A0_3 l0_3.length c0_3) := (blk_cell BK623.out 3).trans rfl
        have hcz20_4 : w5.cell? ⟨gb623, 4, none⟩ = some (.slice A0_4 l0_4.length c0_4) := (blk_cell BK623.out 4).trans rfl
        have hcz20_5 : w5.cell? ⟨gb623, 5, none⟩ = some (.slice A0_5 l0_5.length c0_5) := (blk_cell BK623.out 5).trans rfl
        have hcz20_6 : w5.cell? ⟨gb623, 6, none⟩ = some (.slice A0_6 l0_6.length c0_6) := (blk_cell BK623.out 6).trans rfl
        have hcz20_7 : w5.cell? ⟨gb623, 7, none⟩ = some (.slice A0_7 l0_7.length c0_7) := (blk_cell BK623.out 7).trans rfl
        have hfz20_0 := blk_frozen BK623.out 0
        have hfz20_1 := blk_frozen BK623.out 1
        have hfz20_2 := blk_frozen BK623.out 2
        have hfz20_3 := blk_frozen BK623.out 3
        have hfz20_4 := blk_frozen BK623.out 4
        have hfz20_5 := blk_frozen BK623.out 5
        have hfz20_6 := blk_frozen BK623.out 6
        have hfz20_7 := blk_frozen BK623.out 7
        have hcz21_0 : w5.cell? ⟨gb624, 0, none⟩ = some (.int .i64 a1_0) := (blk_cell BK624.out 0).trans rfl
        have hcz21_1 : w5.cell? ⟨gb624, 1, none⟩ = some (.int .i64 a1_1) := (blk_cell BK624.out 1).trans rfl
        have hcz21_2 : w5.cell? ⟨gb624, 2, none⟩ = some (.int .i64 a1_2) := (blk_cell BK624.out 2).trans rfl
        have hcz21_3 : w5.cell? ⟨gb624, 3, none⟩ = some (.slice A1_3 l1_3.length c1_3) := (blk_cell BK624.out 3).trans rfl
        have hcz21_4 : w5.cell? ⟨gb624, 4, none⟩ = some (.slice A1_4 l1_4.length c1_4) := (blk_cell BK624.out 4).trans rfl
        have hcz21_5 : w5.cell? ⟨gb624, 5, none⟩ = some (.slice A1_5 l1_5.length c1_5) := (blk_cell BK624.out 5).trans rfl
        have hcz21_6 : w5.cell? ⟨gb624, 6, none⟩ = some (.slice A1_6 l1_6.length c1_6) := (blk_cell BK624.out 6).trans rfl
        have hcz21_7 : w5.cell? ⟨gb624, 7, none⟩ = some (.slice A1_7 l1_7.length c1_7) := (blk_cell BK624.out 7).trans rfl
        have hfz21_0 := blk_frozen BK624.out 0
        have hfz21_1 := blk_frozen BK624.out 1
        have hfz21_2 := blk_frozen BK624.out 2
        have hfz21_3 := blk_frozen BK624.out 3
        have hfz21_4 := blk_frozen BK624.out 4
        have hfz21_5 := blk_frozen BK624.out 5
        have hfz21_6 := blk_frozen BK624.out 6
        have hfz21_7 := blk_frozen BK624.out 7
        go_wp2
        go_meet
        case rel => exact ⟨_, (true), ez, H', ⟨by first | omega | exact Nat.le_refl _⟩, ⟨mBK BK623.out⟩, ⟨mBK BK624.out⟩, ⟨mBs HB.out⟩⟩
      ·rw [if_neg c10] at H
       have c10b0 : ((l0_4.length : Int) == (l1_4.length : Int)) = false := beq_eq_false_iff_ne.mpr c10
       have c10b1 : ((l0_4.length : Int) != (l1_4.length : Int)) = true := bne_iff_ne.mpr c10
       have c10b2 : (l0_4.length == l1_4.length) = false := by first | simpa using c10 | (simp at c10 ⊢; omega)
       have H' := Aside0.mk H
       clear H
       have hnb22 := NB623_624.out
       have hnc22 := NB624_623.out
       have hcz23_0 : w5.cell? ⟨gb623, 0, none⟩ = some (.int .i64 a0_0) := (blk_cell BK623.out 0).trans rfl
       have hcz23_1 : w5.cell? ⟨gb623, 1, none⟩ = some (.int .i64 a0_1) := (blk_cell BK623.out 1).trans rfl
       have hcz23_2 : w5.cell? ⟨gb623, 2, none⟩ = some (.int .i64 a0_2) := (blk_cell BK623.out 2).trans rfl
       have hcz23_3 : w5.cell? ⟨gb623, 3, none⟩ = some (.slice A0_3 l0_3.length c0_3) := (blk_cell BK623.out 3).trans rfl
       have hcz23_4 : w5.cell? ⟨gb623, 4, none⟩ = some (.slice A0_4 l0_4.length c0_4) := (blk_cell BK623.out 4).trans rfl
       have hcz23_5 : w5.cell? ⟨gb623, 5, none⟩ = some (.slice A0_5 l0_5.length c0_5) := (blk_cell BK623.out 5).trans rfl
       have hcz23_6 : w5.cell? ⟨gb623, 6, none⟩ = some (.slice A0_6 l0_6.length c0_6) := (blk_cell BK623.out 6).trans rfl
       have hcz23_7 : w5.cell? ⟨gb623, 7, none⟩ = some (.slice A0_7 l0_7.length c0_7) := (blk_cell BK623.out 7).trans rfl
       have hfz23_0 := blk_frozen BK623.out 0
       have hfz23_1 := blk_frozen BK623.out 1
       have hfz23_2 := blk_frozen BK623.out 2
       have hfz23_3 := blk_frozen BK623.out 3
       have hfz23_4 := blk_frozen BK623.out 4
       have hfz23_5 := blk_frozen BK623.out 5
       have hfz23_6 := blk_frozen BK623.out 6
       have hfz23_7 := blk_frozen BK623.out 7
       have hcz24_0 : w5.cell? ⟨gb624, 0, none⟩ = some (.int .i64 a1_0) := (blk_cell BK624.out 0).trans rfl
       have hcz24_1 : w5.cell? ⟨gb624, 1, none⟩ = some (.int .i64 a1_1) := (blk_cell BK624.out 1).trans rfl
       have hcz24_2 : w5.cell? ⟨gb624, 2, none⟩ = some (.int .i64 a1_2) := (blk_cell BK624.out 2).trans rfl
       have hcz24_3 : w5.cell? ⟨gb624, 3, none⟩ = some (.slice A1_3 l1_3.length c1_3) := (blk_cell BK624.out 3).trans rfl
       have hcz24_4 : w5.cell? ⟨gb624, 4, none⟩ = some (.slice A1_4 l1_4.length c1_4) := (blk_cell BK624.out 4).trans rfl
       have hcz24_5 : w5.cell? ⟨gb624, 5, none⟩ = some (.slice A1_5 l1_5.length c1_5) := (blk_cell BK624.out 5).trans rfl
       have hcz24_6 : w5.cell? ⟨gb624, 6, none⟩ = some (.slice A1_6 l1_6.length c1_6) := (blk_cell BK624.out 6).trans rfl
       have hcz24_7 : w5.cell? ⟨gb624, 7, none⟩ = some (.slice A1_7 l1_7.length c1_7) := (blk_cell BK624.out 7).trans rfl
       have hfz24_0 := blk_frozen BK624.out 0
       have hfz24_1 := blk_frozen BK624.out 1
       have hfz24_2 := blk_frozen BK624.out 2
       have hfz24_3 := blk_frozen BK624.out 3
       have hfz24_4 := blk_frozen BK624.out 4
       have hfz24_5 := blk_frozen BK624.out 5
       have hfz24_6 := blk_frozen BK624.out 6
       have hfz24_7 := blk_frozen BK624.out 7
       go_wp2
       go_meet
       case rel => exact ⟨_, (true), ez, H', ⟨by first | omega | exact Nat.le_refl _⟩, ⟨mBK BK623.out⟩, ⟨mBK BK624.out⟩, ⟨mBs HB.out⟩⟩
     ·rw [if_neg c9] at H
      have c9b0 : ((l0_3.length : Int) == (l1_3.length : Int)) = false := beq_eq_false_iff_ne.mpr c9
      have c9b1 : ((l0_3.length : Int) != (l1_3.length : Int)) = true := bne_iff_ne.mpr c9
      have c9b2 : (l0_3.length == l1_3.length) = false := by first | simpa using c9 | (simp at c9 ⊢; omega)
      have H' := Aside0.mk H
      clear H
      have hnb25 := NB623_624.out
      have hnc25 := NB624_623.out
      have hcz26_0 : w5.cell? ⟨gb623, 0, none⟩ = some (.int .i64 a0_0) := (blk_cell BK623.out 0).trans rfl
      have hcz26_1 : w5.cell? ⟨gb623, 1, none⟩ = some (.int .i64 a0_1) := (blk_cell BK623.out 1).trans rfl
      have hcz26_2 : w5.cell? ⟨gb623, 2, none⟩ = some (.int .i64 a0_2) := (blk_cell BK623.out 2).trans rfl
      have hcz26_3 : w5.cell? ⟨gb623, 3, none⟩ = some (.slice A0_3 l0_3.length c0_3) := (blk_cell BK623.out 3).trans rfl
      have hcz26_4 : w5.cell? ⟨gb623, 4, none⟩ = some (.slice A0_4 l0_4.length c0_4) := (blk_cell BK623.out 4).trans rfl
      have hcz26_5 : w5.cell? ⟨gb623, 5, none⟩ = some (.slice A0_5 l0_5.length c0_5) := (blk_cell BK623.out 5).trans rfl
      have hcz26_6 : w5.cell? ⟨gb623, 6, none⟩ = some (.slice A0_6 l0_6.length c0_6) := (blk_cell BK623.out 6).trans rfl
      have hcz26_7 : w5.cell? ⟨gb623, 7, none⟩ = some (.slice A0_7 l0_7.length c0_7) := (blk_cell BK623.out 7).trans rfl
      have hfz26_0 := blk_frozen BK623.out 0
      have hfz26_1 := blk_frozen BK623.out 1
      have hfz26_2 := blk_frozen BK623.out 2
      have hfz26_3 := blk_frozen BK623.out 3
      have hfz26_4 := blk_frozen BK623.out 4
      have hfz26_5 := blk_frozen BK623.out 5
      have hfz26_6 := blk_frozen BK623.out 6
      have hfz26_7 := blk_frozen BK623.out 7
      have hcz27_0 : w5.cell? ⟨gb624, 0, none⟩ = some (.int .i64 a1_0) := (blk_cell BK624.out 0).trans rfl
      have hcz27_1 : w5.cell? ⟨gb624, 1, none⟩ = some (.int .i64 a1_1) := (blk_cell BK624.out 1).trans rfl
      have hcz27_2 : w5.cell? ⟨gb624, 2, none⟩ = some (.int .i64 a1_2) := (blk_cell BK624.out 2).trans rfl
      have hcz27_3 : w5.cell? ⟨gb624, 3, none⟩ = some (.slice A1_3 l1_3.length c1_3) := (blk_cell BK624.out 3).trans rfl
      have hcz27_4 : w5.cell? ⟨gb624, 4, none⟩ = some (.slice A1_4 l1_4.length c1_4) := (blk_cell BK624.out 4).trans rfl
      have hcz27_5 : w5.cell? ⟨gb624, 5, none⟩ = some (.slice A1_5 l1_5.length c1_5) := (blk_cell BK624.out 5).trans rfl
      have hcz27_6 : w5.cell? ⟨gb624, 6, none⟩ = some (.slice A1_6 l1_6.length c1_6) := (blk_cell BK624.out 6).trans rfl
      have hcz27_7 : w5.cell? ⟨gb624, 7, none⟩ = some (.slice A1_7 l1_7.length c1_7) := (blk_cell BK624.out 7).trans rfl
      have hfz27_0 := blk_frozen BK624.out 0
      have hfz27_1 := blk_frozen BK624.out 1
      have hfz27_2 := blk_frozen BK624.out 2
      have hfz27_3 := blk_frozen BK624.out 3
      have hfz27_4 := blk_frozen BK624.out 4
      have hfz27_5 := blk_frozen BK624.out 5
      have hfz27_6 := blk_frozen BK624.out 6
      have hfz27_7 := blk_frozen BK624.out 7
      go_wp2
      go_meet
      case rel => exact ⟨_, (true), ez, H', ⟨by first | omega | exact Nat.le_refl _⟩, ⟨mBK BK623.out⟩, ⟨mBK BK624.out⟩, ⟨mBs HB.out⟩⟩
    ·rw [if_neg c8] at H
     have c8b0 : (a0_2 == a1_2) = false := beq_eq_false_iff_ne.mpr c8
     have c8b1 : (a0_2 != a1_2) = true := bne_iff_ne.mpr c8
     have H' := Aside0.mk H
     clear H
     have hnb28 := NB623_624.out
     have hnc28 := NB624_623.out
     have hcz29_0 : w5.cell? ⟨gb623, 0, none⟩ = some (.int .i64 a0_0) := (blk_cell BK623.out 0).trans rfl
     have hcz29_1 : w5.cell? ⟨gb623, 1, none⟩ = some (.int .i64 a0_1) := (blk_cell BK623.out 1).trans rfl
     have hcz29_2 : w5.cell? ⟨gb623, 2, none⟩ = some (.int .i64 a0_2) := (blk_cell BK623.out 2).trans rfl
     have hcz29_3 : w5.cell? ⟨gb623, 3, none⟩ = some (.slice A0_3 l0_3.length c0_3) := (blk_cell BK623.out 3).trans rfl
     have hcz29_4 : w5.cell? ⟨gb623, 4, none⟩ = some (.slice A0_4 l0_4.length c0_4) := (blk_cell BK623.out 4).trans rfl
     have hcz29_5 : w5.cell? ⟨gb623, 5, none⟩ = some (.slice A0_5 l0_5.length c0_5) := (blk_cell BK623.out 5).trans rfl
     have hcz29_6 : w5.cell? ⟨gb623, 6, none⟩ = some (.slice A0_6 l0_6.length c0_6) := (blk_cell BK623.out 6).trans rfl
     have hcz29_7 : w5.cell? ⟨gb623, 7, none⟩ = some (.slice A0_7 l0_7.length c0_7) := (blk_cell BK623.out 7).trans rfl
     have hfz29_0 := blk_frozen BK623.out 0
     have hfz29_1 := blk_frozen BK623.out 1
     have hfz29_2 := blk_frozen BK623.out 2
     have hfz29_3 := blk_frozen BK623.out 3
     have hfz29_4 := blk_frozen BK623.out 4
     have hfz29_5 := blk_frozen BK623.out 5
     have hfz29_6 := blk_frozen BK623.out 6
     have hfz29_7 := blk_frozen BK623.out 7
     have hcz30_0 : w5.cell? ⟨gb624, 0, none⟩ = some (.int .i64 a1_0) := (blk_cell BK624.out 0).trans rfl
     have hcz30_1 : w5.cell? ⟨gb624, 1, none⟩ = some (.int .i64 a1_1) := (blk_cell BK624.out 1).trans rfl
     have hcz30_2 : w5.cell? ⟨gb624, 2, none⟩ = some (.int .i64 a1_2) := (blk_cell BK624.out 2).trans rfl
     have hcz30_3 : w5.cell? ⟨gb624, 3, none⟩ = some (.slice A1_3 l1_3.length c1_3) := (blk_cell BK624.out 3).trans rfl
     have hcz30_4 : w5.cell? ⟨gb624, 4, none⟩ = some (.slice A1_4 l1_4.length c1_4) := (blk_cell BK624.out 4).trans rfl
     have hcz30_5 : w5.cell? ⟨gb624, 5, none⟩ = some (.slice A1_5 l1_5.length c1_5) := (blk_cell BK624.out 5).trans rfl
     have hcz30_6 : w5.cell? ⟨gb624, 6, none⟩ = some (.slice A1_6 l1_6.length c1_6) := (blk_cell BK624.out 6).trans rfl
     have hcz30_7 : w5.cell? ⟨gb624, 7, none⟩ = some (.slice A1_7 l1_7.length c1_7) := (blk_cell BK624.out 7).trans rfl
     have hfz30_0 := blk_frozen BK624.out 0
     have hfz30_1 := blk_frozen BK624.out 1
     have hfz30_2 := blk_frozen BK624.out 2
     have hfz30_3 := blk_frozen BK624.out 3
     have hfz30_4 := blk_frozen BK624.out 4
     have hfz30_5 := blk_frozen BK624.out 5
     have hfz30_6 := blk_frozen BK624.out 6
     have hfz30_7 := blk_frozen BK624.out 7
     go_wp2
     go_meet
     case rel => exact ⟨_, (true), ez, H', ⟨by first | omega | exact Nat.le_refl _⟩, ⟨mBK BK623.out⟩, ⟨mBK BK624.out⟩, ⟨mBs HB.out⟩⟩
   ·rw [if_neg c7] at H
    have c7b0 : (a0_1 == a1_1) = false := beq_eq_false_iff_ne.mpr c7
    have c7b1 : (a0_1 != a1_1) = true := bne_iff_ne.mpr c7
    have H' := Aside0.mk H
    clear H
    have hnb31 := NB623_624.out
    have hnc31 := NB624_623.out
    have hcz32_0 : w5.cell? ⟨gb623, 0, none⟩ = some (.int .i64 a0_0) := (blk_cell BK623.out 0).trans rfl
    have hcz32_1 : w5.cell? ⟨gb623, 1, none⟩ = some (.int .i64 a0_1) := (blk_cell BK623.out 1).trans rfl
    have hcz32_2 : w5.cell? ⟨gb623, 2, none⟩ = some (.int .i64 a0_2) := (blk_cell BK623.out 2).trans rfl
    have hcz32_3 : w5.cell? ⟨gb623, 3, none⟩ = some (.slice A0_3 l0_3.length c0_3) := (blk_cell BK623.out 3).trans rfl
    have hcz32_4 : w5.cell? ⟨gb623, 4, none⟩ = some (.slice A0_4 l0_4.length c0_4) := (blk_cell BK623.out 4).trans rfl
    have hcz32_5 : w5.cell? ⟨gb623, 5, none⟩ = some (.slice A0_5 l0_5.length c0_5) := (blk_cell BK623.out 5).trans rfl
    have hcz32_6 : w5.cell? ⟨gb623, 6, none⟩ = some (.slice A0_6 l0_6.length c0_6) := (blk_cell BK623.out 6).trans rfl
    have hcz32_7 : w5.cell? ⟨gb623, 7, none⟩ = some (.slice A0_7 l0_7.length c0_7) := (blk_cell BK623.out 7).trans rfl
    have hfz32_0 := blk_frozen BK623.out 0
    have hfz32_1 := blk_frozen BK623.out 1
    have hfz32_2 := blk_frozen BK623.out 2
    have hfz32_3 := blk_frozen BK623.out 3
    have hfz32_4 := blk_frozen BK623.out 4
    have hfz32_5 := blk_frozen BK623.out 5
    have hfz32_6 := blk_frozen BK623.out 6
    have hfz32_7 := blk_frozen BK623.out 7
    have hcz33_0 : w5.cell? ⟨gb624, 0, none⟩ = some (.int .i64 a1_0) := (blk_cell BK624.out 0).trans rfl
    have hcz33_1 : w5.cell? ⟨gb624, 1, none⟩ = some (.int .i64 a1_1) := (blk_cell BK624.out 1).trans rfl
    have hcz33_2 : w5.cell? ⟨gb624, 2, none⟩ = some (.int .i64 a1_2) := (blk_cell BK624.out 2).trans rfl
    have hcz33_3 : w5.cell? ⟨gb624, 3, none⟩ = some (.slice A1_3 l1_3.length c1_3) := (blk_cell BK624.out 3).trans rfl
    have hcz33_4 : w5.cell? ⟨gb624, 4, none⟩ = some (.slice A1_4 l1_4.length c1_4) := (blk_cell BK624.out 4).trans rfl
    have hcz33_5 : w5.cell? ⟨gb624, 5, none⟩ = some (.slice A1_5 l1_5.length c1_5) := (blk_cell BK624.out 5).trans rfl
    have hcz33_6 : w5.cell? ⟨gb624, 6, none⟩ = some (.slice A1_6 l1_6.length c1_6) := (blk_cell BK624.out 6).trans rfl
    have hcz33_7 : w5.cell? ⟨gb624, 7, none⟩ = some (.slice A1_7 l1_7.length c1_7) := (blk_cell BK624.out 7).trans rfl
    have hfz33_0 := blk_frozen BK624.out 0
    have hfz33_1 := blk_frozen BK624.out 1
    have hfz33_2 := blk_frozen BK624.out 2
    have hfz33_3 := blk_frozen BK624.out 3
    have hfz33_4 := blk_frozen BK624.out 4
    have hfz33_5 := blk_frozen BK624.out 5
    have hfz33_6 := blk_frozen BK624.out 6
    have hfz33_7 := blk_frozen BK624.out 7
    go_wp2
    go_meet
    case rel => exact ⟨_, (true), ez, H', ⟨by first | omega | exact Nat.le_refl _⟩, ⟨mBK BK623.out⟩, ⟨mBK BK624.out⟩, ⟨mBs HB.out⟩⟩
  ·rw [if_neg c6] at H
   have c6b0 : (a0_0 == a1_0) = false := beq_eq_false_iff_ne.mpr c6
   have c6b1 : (a0_0 != a1_0) = true := bne_iff_ne.mpr c6
   (first | rw [c6b0] | (simp only [i64_w, i32_w]; rw [c6b0]) | skip)
   have H' := Aside0.mk H
   clear H
   have hnb34 := NB623_624.out
   have hnc34 := NB624_623.out
   have hcz35_0 : w5.cell? ⟨gb623, 0, none⟩ = some (.int .i64 a0_0) := (blk_cell BK623.out 0).trans rfl
   have hcz35_1 : w5.cell? ⟨gb623, 1, none⟩ = some (.int .i64 a0_1) := (blk_cell BK623.out 1).trans rfl
   have hcz35_2 : w5.cell? ⟨gb623, 2, none⟩ = some (.int .i64 a0_2) := (blk_cell BK623.out 2).trans rfl
   have hcz35_3 : w5.cell? ⟨gb623, 3, none⟩ = some (.slice A0_3 l0_3.length c0_3) := (blk_cell BK623.out 3).trans rfl
   have hcz35_4 : w5.cell? ⟨gb623, 4, none⟩ = some (.slice A0_4 l0_4.length c0_4) := (blk_cell BK623.out 4).trans rfl
   have hcz35_5 : w5.cell? ⟨gb623, 5, none⟩ = some (.slice A0_5 l0_5.length c0_5) := (blk_cell BK623.out 5).trans rfl
   have hcz35_6 : w5.cell? ⟨gb623, 6, none⟩ = some (.slice A0_6 l0_6.length c0_6) := (blk_cell BK623.out 6).trans rfl
   have hcz35_7 : w5.cell? ⟨gb623, 7, none⟩ = some (.slice A0_7 l0_7.length c0_7) := (blk_cell BK623.out 7).trans rfl
   have hfz35_0 := blk_frozen BK623.out 0
   have hfz35_1 := blk_frozen BK623.out 1
   have hfz35_2 := blk_frozen BK623.out 2
   have hfz35_3 := blk_frozen BK623.out 3
   have hfz35_4 := blk_frozen BK623.out 4
   have hfz35_5 := blk_frozen BK623.out 5
   have hfz35_6 := blk_frozen BK623.out 6
   have hfz35_7 := blk_frozen BK623.out 7
   have hcz36_0 : w5.cell? ⟨gb624, 0, none⟩ = some (.int .i64 a1_0) := (blk_cell BK624.out 0).trans rfl
   have hcz36_1 : w5.cell? ⟨gb624, 1, none⟩ = some (.int .i64 a1_1) := (blk_cell BK624.out 1).trans rfl
   have hcz36_2 : w5.cell? ⟨gb624, 2, none⟩ = some (.int .i64 a1_2) := (blk_cell BK624.out 2).trans rfl
   have hcz36_3 : w5.cell? ⟨gb624, 3, none⟩ = some (.slice A1_3 l1_3.length c1_3) := (blk_cell BK624.out 3).trans rfl
   have hcz36_4 : w5.cell? ⟨gb624, 4, none⟩ = some (.slice A1_4 l1_4.length c1_4) := (blk_cell BK624.out 4).trans rfl
   have hcz36_5 : w5.cell? ⟨gb624, 5, none⟩ = some (.slice A1_5 l1_5.length c1_5) := (blk_cell BK624.out 5).trans rfl
   have hcz36_6 : w5.cell? ⟨gb624, 6, none⟩ = some (.slice A1_6 l1_6.length c1_6) := (blk_cell BK624.out 6).trans rfl
   have hcz36_7 : w5.cell? ⟨gb624, 7, none⟩ = some (.slice A1_7 l1_7.length c1_7) := (blk_cell BK624.out 7).trans rfl
   have hfz36_0 := blk_frozen BK624.out 0
   have hfz36_1 := blk_frozen BK624.out 1
   have hfz36_2 := blk_frozen BK624.out 2
   have hfz36_3 := blk_frozen BK624.out 3
   have hfz36_4 := blk_frozen BK624.out 4
   have hfz36_5 := blk_frozen BK624.out 5
   have hfz36_6 := blk_frozen BK624.out 6
   have hfz36_7 := blk_frozen BK624.out 7
   go_wp2
   go_meet
   case rel => exact ⟨_, (true), ez, H', ⟨by first | omega | exact Nat.le_refl _⟩, ⟨mBK BK623.out⟩, ⟨mBK BK624.out⟩, ⟨mBs HB.out⟩⟩
 case rest =>
  clear HC3
  obtain ⟨kq, x73_2, rfl, HA, HJ2, BK623, BK624, HB⟩ := hcut
  cases kq with
  | zero => exact absurd HA.out (by simp [prebendref13_Same.j0])
  | succ kj2 =>
   have H := HA.out
   clear HA
   simp only [prebendref13_Same.j0] at H
   by_cases c37 : x73_2 = true
   ·subst c37
    have H1 : (some false) = some r := by rw [if_pos rfl] at H; exact H
    clear H
    have H := H1
    clear H1
    obtain rfl := Option.some.inj H
    go_wp2
    go_ret
    exact ⟨by first | rfl | (simp [errW_none, errW_some] <;> rfl) | (simp [*, errW_none, errW_some] <;> rfl), by repeat (first | (with_reducible first | exact HB.out | apply below_alloc | apply pw_below_drewN | apply below_drew1 | refine below_set ?_ GE623.out | refine below_set ?_ GE624.out) | exact HB.out)⟩
   ·replace c37 := Bool.eq_false_iff.mpr c37
    subst c37
    have H1 : (prebendref13_Same.l0 kj2 0 a0_0 a0_1 a0_2 l0_3 l0_4 l0_5 l0_6 l0_7 a1_0 a1_1 a1_2 l1_3 l1_4 l1_5 l1_6 l1_7) = some r := by rw [if_neg (show ¬ (false = true) by decide)] at H; exact H
    clear H
    have H := H1
    clear H1
    have H' := Aside0.mk H
    clear H
    go_wp2
    go_loopg [5] kj2 (fun kq v5 w' => ∃ (x5_2 : Int), v5 = .int .i64 x5_2 ∧ Aside0 (prebendref13_Same.l0 kq x5_2 a0_0 a0_1 a0_2 l0_3 l0_4 l0_5 l0_6 l0_7 a1_0 a1_1 a1_2 l1_3 l1_4 l1_5 l1_6 l1_7 = some r) ∧ Aside0 (kq ≤ kj2) ∧ Aside0 (w'.heap[gb623]? = some (.cells #[.int .i64 a0_0, .int .i64 a0_1, .int .i64 a0_2, (.slice A0_3 l0_3.length c0_3), (.slice A0_4 l0_4.length c0_4), (.slice A0_5 l0_5.length c0_5), (.slice A0_6 l0_6.length c0_6), (.slice A0_7 l0_7.length c0_7)] 67 (0, 0))) ∧ Aside0 (w'.heap[gb624]? = some (.cells #[.int .i64 a1_0, .int .i64 a1_1, .int .i64 a1_2, (.slice A1_3 l1_3.length c1_3), (.slice A1_4 l1_4.length c1_4), (.slice A1_5 l1_5.length c1_5), (.slice A1_6 l1_6.length c1_6), (.slice A1_7 l1_7.length c1_7)] 67 (0, 0))) ∧ Aside0 (Below w.heap.size w w'))
    case atStart => exact ⟨(0), ez, H', ⟨Nat.le_refl _⟩, ⟨mBK BK623.out⟩, ⟨mBK BK624.out⟩, ⟨mBs HB.out⟩⟩
    case round =>
     clear H'
     obtain ⟨x5_2, rfl, HA, HK2, BK623, BK624, HB⟩ := hrel
     cases gk with
     | zero => exact absurd HA.out (by simp [prebendref13_Same.l0])
     | succ k2 =>
      have H := HA.out
      clear HA
      simp only [prebendref13_Same.l0] at H
      by_cases c38 : x5_2 < (l0_3.length : Int)
      ·rw [if_pos c38] at H
       have c38b0 : decide (x5_2 < (l0_3.length : Int)) = true := decide_eq_true c38
       clear c38
       by_cases c39 : 0 ≤ x5_2
       ·rw [if_pos c39] at H
        have c39b0 : decide (0 ≤ x5_2) = true := decide_eq_true c39
        clear c39
        by_cases c40 : x5_2 < (l1_3.length : Int)
        ·rw [if_pos c40] at H
         have c40b0 : decide (x5_2 < (l1_3.length : Int)) = true := decide_eq_true c40
         clear c40
         by_cases c41 : (!((((rd_T93 l0_3 x5_2).f0).toList) == (((rd_T93 l1_3 x5_2).f0).toList)) || (!(((rd_T93 l0_3 x5_2).f1) == ((rd_T93 l1_3 x5_2).f1)) || (!(((rd_T93 l0_3 x5_2).f2) == ((rd_T93 l1_3 x5_2).f2))))) = true
         ·rw [if_pos c41] at H
          have c41b0 : (!((((rd_T93 l0_3 x5_2).f0).toList) == (((rd_T93 l1_3 x5_2).f0).toList)) || (!(((rd_T93 l0_3 x5_2).f1) == ((rd_T93 l1_3 x5_2).f1)) || (!(((rd_T93 l0_3 x5_2).f2) == ((rd_T93 l1_3 x5_2).f2))))) = true := c41
          clear c41
          obtain rfl := Option.some.inj H
          have hnb42 := NB623_624.out
          have hnc42 := NB624_623.out
          have hcz43_0 : wr.cell? ⟨gb623, 0, none⟩ = some (.int .i64 a0_0) := (blk_cell BK623.out 0).trans rfl
          have hcz43_1 : wr.cell? ⟨gb623, 1, none⟩ = some (.int .i64 a0_1) := (blk_cell BK623.out 1).trans rfl
          have hcz43_2 : wr.cell? ⟨gb623, 2, none⟩ = some (.int .i64 a0_2) := (blk_cell BK623.out 2).trans rfl
          have hcz43_3 : wr.cell? ⟨gb623, 3, none⟩ = some (.slice A0_3 l0_3.length c0_3) := (blk_cell BK623.out 3).trans rfl
          have hcz43_4 : wr.cell? ⟨gb623, 4, none⟩ = some (.slice A0_4 l0_4.length c0_4) := (blk_cell BK623.out 4).trans rfl
          have hcz43_5 : wr.cell? ⟨gb623, 5, none⟩ = some (.slice A0_5 l0_5.length c0_5) := (blk_cell BK623.out 5).trans rfl
          have hcz43_6 : wr.cell? ⟨gb623, 6, none⟩ = some (.slice A0_6 l0_6.length c0_6) := (blk_cell BK623.out 6).trans rfl
          have hcz43_7 : wr.cell? ⟨gb623, 7, none⟩ = some (.slice A0_7 l0_7.length c0_7) := (blk_cell BK623.out 7).trans rfl
          have hfz43_0 := blk_frozen BK623.out 0
          have hfz43_1 := blk_frozen BK623.out 1
          have hfz43_2 := blk_frozen BK623.out 2
          have hfz43_3 := blk_frozen BK623.out 3
          have hfz43_4 := blk_frozen BK623.out 4
          have hfz43_5 := blk_frozen BK623.out 5
          have hfz43_6 := blk_frozen BK623.out 6
          have hfz43_7 := blk_frozen BK623.out 7
          try go_wp2
          have n0_ := Aside0.mk (blk_drew BK623.out)
          have n1_ := Aside0.mk (blk_drew BK624.out)
          have n2_ := Aside0.mk (below_drew1 HB.out)
          clear BK623 BK624 HB
          have BK623 := n0_
          have BK624 := n1_
          have HB := n2_
          clear n0_ n1_ n2_
          have p625 : 0 ≤ (x5_2 : Int) := oda
          have q625 : x5_2 < (l0_3.length : Int) := oda
          obtain ⟨ad625, e625, hx625_0, hx625_1, hx625_2⟩ := at_T93 HR0_3.out x5_2 p625 q625
          have hw625_2 := hx625_2
          have hw625_1 := hx625_1
          have hw625_0 := hx625_0
          cases e625
          replace hx625_0 := (HB.out.cell (World.block_lt_of_cell? w _ hx625_0)).trans hx625_0
          replace hx625_1 := (HB.out.cell (World.block_lt_of_cell? w _ hx625_1)).trans hx625_1
          replace hx625_2 := (HB.out.cell (World.block_lt_of_cell? w _ hx625_2)).trans hx625_2
          replace p625 := eq_true p625
          replace q625 := eq_true q625
          have p626 : 0 ≤ (x5_2 : Int) := oda
          have q626 : x5_2 < (l1_3.length : Int) := oda
          obtain ⟨ad626, e626, hx626_0, hx626_1, hx626_2⟩ := at_T93 HR1_3.out x5_2 p626 q626
          have hw626_2 := hx626_2
          have hw626_1 := hx626_1
          have hw626_0 := hx626_0
          cases e626
          replace hx626_0 := (HB.out.cell (World.block_lt_of_cell? w _ hx626_0)).trans hx626_0
          replace hx626_1 := (HB.out.cell (World.block_lt_of_cell? w _ hx626_1)).trans hx626_1
          replace hx626_2 := (HB.out.cell (World.block_lt_of_cell? w _ hx626_2)).trans hx626_2
          replace p626 := eq_true p626
          replace q626 := eq_true q626
          refine start_ (n := 11) (S := fun w' => w'.cell? ⟨gb623, 0, none⟩ = some (.int .i64 a0_0) ∧ w'.cell? ⟨gb623, 1, none⟩ = some (.int .i64 a0_1) ∧ w'.cell? ⟨gb623, 2, none⟩ = some (.int .i64 a0_2) ∧ w'.cell? ⟨gb623, 3, none⟩ = some (.slice (some ad625) l0_3.length c0_3) ∧ w'.cell? ⟨gb623, 4, none⟩ = some (.slice A0_4 l0_4.length c0_4) ∧ w'.cell? ⟨gb623, 5, none⟩ = some (.slice A0_5 l0_5.length c0_5) ∧ w'.cell? ⟨gb623, 6, none⟩ = some (.slice A0_6 l0_6.length c0_6) ∧ w'.cell? ⟨gb623, 7, none⟩ = some (.slice A0_7 l0_7.length c0_7) ∧ w'.cell? ⟨gb624, 0, none⟩ = some (.int .i64 a1_0) ∧ w'.cell? ⟨gb624, 1, none⟩ = some (.int .i64 a1_1) ∧ w'.cell? ⟨gb624, 2, none⟩ = some (.int .i64 a1_2) ∧ w'.cell? ⟨gb624, 3, none⟩ = some (.slice (some ad626) l1_3.length c1_3) ∧ w'.cell? ⟨gb624, 4, none⟩ = some (.slice A1_4 l1_4.length c1_4) ∧ w'.cell? ⟨gb624, 5, none⟩ = some (.slice A1_5 l1_5.length c1_5) ∧ w'.cell? ⟨gb624, 6, none⟩ = some (.slice A1_6 l1_6.length c1_6) ∧ w'.cell? ⟨gb624, 7, none⟩ = some (.slice A1_7 l1_7.length c1_7) ∧ w'.cell? (ad625.add ((x5_2).toNat * 3)) = some (.string ((rd_T93 l0_3 x5_2).f0)) ∧ w'.cell? ⟨(ad625.add ((x5_2).toNat * 3)).block, (ad625.add ((x5_2).toNat * 3)).off + 1, none⟩ = some (.int .i64 ((rd_T93 l0_3 x5_2).f1)) ∧ w'.cell? ⟨(ad625.add ((x5_2).toNat * 3)).block, (ad625.add ((x5_2).toNat * 3)).off + 2, none⟩ = some (.int .i64 ((rd_T93 l0_3 x5_2).f2)) ∧ w'.cell? (ad626.add ((x5_2).toNat * 3)) = some (.string ((rd_T93 l1_3 x5_2).f0)) ∧ w'.cell? ⟨(ad626.add ((x5_2).toNat * 3)).block, (ad626.add ((x5_2).toNat * 3)).off + 1, none⟩ = some (.int .i64 ((rd_T93 l1_3 x5_2).f1)) ∧ w'.cell? ⟨(ad626.add ((x5_2).toNat * 3)).block, (ad626.add ((x5_2).toNat * 3)).off + 2, none⟩ = some (.int .i64 ((rd_T93 l1_3 x5_2).f2))) (ds := []) #[false, false, false, false, false, false, false, false, false, false, false] (by kernel_rfl) rfl rfl ⟨(blk_cell BK623.out 0).trans rfl, (blk_cell BK623.out 1).trans rfl, (blk_cell BK623.out 2).trans rfl, (blk_cell BK623.out 3).trans rfl, (blk_cell BK623.out 4).trans rfl, (blk_cell BK623.out 5).trans rfl, (blk_cell BK623.out 6).trans rfl, (blk_cell BK623.out 7).trans rfl, (blk_cell BK624.out 0).trans rfl, (blk_cell BK624.out 1).trans rfl, (blk_cell BK624.out 2).trans rfl, (blk_cell BK624.out 3).trans rfl, (blk_cell BK624.out 4).trans rfl, (blk_cell BK624.out 5).trans rfl, (blk_cell BK624.out 6).trans rfl, (blk_cell BK624.out 7).trans rfl, ((HB.out.cell (World.block_lt_of_cell? w _ hw625_0)).trans hw625_0), ((HB.out.cell (World.block_lt_of_cell? w _ hw625_1)).trans hw625_1), ((HB.out.cell (World.block_lt_of_cell? w _ hw625_2)).trans hw625_2), ((HB.out.cell (World.block_lt_of_cell? w _ hw626_0)).trans hw626_0), ((HB.out.cell (World.block_lt_of_cell? w _ hw626_1)).trans hw626_1), ((HB.out.cell (World.block_lt_of_cell? w _ hw626_2)).trans hw626_2)⟩ (fun hHeld => ?_); refine with_tabW prebendref13_Same.tab6 prebendref13_Same.bits6 (fun HT_ HW_ => ?_)
          generalize wr.drew = w44 at BK623 BK624 HB hx625_0 hx625_1 hx625_2 hx626_0 hx626_1 hx626_2 hHeld ⊢
          refine plan_ [(0, 81), (2, 83), (5, 86), (7, 88)] ?_
          iterate 4 (refine planP_ (v := ?_) (a' := ?_) rfl rfl (any_of HT_.out (by kernel_rfl)) (fun _ _ _ h => h) (Or.inl ⟨by rfl, ?_⟩) ?_ ?_; rotate_left; (intro w'; go_simp; with_reducible rfl); rotate_left; (simp only [Act.put, List.setIfInBounds_toArray, List.set_cons_zero, List.set_cons_succ, i64_w, i32_w]; rfl))
          refine planEnd_ ?_
          refine plan_ [(1, 82)] ?_
          refine planT_ (v := ?_) (a' := ?_) rfl rfl (take_ofW HT_.out HW_.out (by kernel_rfl)) (fun _ _ _ h => h) (Or.inl ⟨by rfl, ?_⟩) hHeld ?_ ?_; rotate_left; (rintro w' ⟨s0, s1, s2, s3, s4, s5, s6, s7, s8, s9, s10, s11, s12, s13, s14, s15, s16, s17, s18, s19, s20, s21⟩; go_simp; with_reducible rfl); rotate_left; (simp only [Act.put, List.setIfInBounds_toArray, List.set_cons_zero, List.set_cons_succ, i64_w, i32_w]; rfl)
          refine planEnd_ ?_
          refine plan_ [(3, 84)] ?_
          refine planP_ (v := ?_) (a' := ?_) rfl rfl (any_of HT_.out (by kernel_rfl)) (fun _ _ _ h => h) (Or.inl ⟨by rfl, ?_⟩) ?_ ?_; rotate_left; (intro w'; go_simp; with_reducible rfl); rotate_left; (simp only [Act.put, List.setIfInBounds_toArray, List.set_cons_zero, List.set_cons_succ, i64_w, i32_w]; rfl)
          refine planEnd_ ?_
          refine plan_ [(4, 85), (6, 87)] ?_
          iterate 2 (refine planT_ (v := ?_) (a' := ?_) rfl rfl (take_ofW HT_.out HW_.out (by kernel_rfl)) (fun _ _ _ h => h) (Or.inl ⟨by rfl, ?_⟩) hHeld ?_ ?_; rotate_left; (rintro w' ⟨s0, s1, s2, s3, s4, s5, s6, s7, s8, s9, s10, s11, s12, s13, s14, s15, s16, s17, s18, s19, s20, s21⟩; go_simp; with_reducible rfl); rotate_left; (simp only [Act.put, List.setIfInBounds_toArray, List.set_cons_zero, List.set_cons_succ, i64_w, i32_w]; rfl))
          refine planEnd_ ?_
          refine plan_ [(8, 89)] ?_
          refine planP_ (v := ?_) (a' := ?_) rfl rfl (any_of HT_.out (by kernel_rfl)) (fun _ _ _ h => h) (Or.inl ⟨by rfl, ?_⟩) ?_ ?_; rotate_left; (intro w'; go_simp; with_reducible rfl); rotate_left; (simp only [Act.put, List.setIfInBounds_toArray, List.set_cons_zero, List.set_cons_succ, i64_w, i32_w]; rfl)
          refine planEnd_ ?_
          refine plan_ [(9, 90)] ?_
          refine planT_ (v := ?_) (a' := ?_) rfl rfl (take_ofW HT_.out HW_.out (by kernel_rfl)) (fun _ _ _ h => h) (Or.inl ⟨by rfl, ?_⟩) hHeld ?_ ?_; rotate_left; (rintro w' ⟨s0, s1, s2, s3, s4, s5, s6, s7, s8, s9, s10, s11, s12, s13, s14, s15, s16, s17, s18, s19, s20, s21⟩; go_simp; with_reducible rfl); rotate_left; (simp only [Act.put, List.setIfInBounds_toArray, List.set_cons_zero, List.set_cons_succ, i64_w, i32_w]; rfl)
          refine planEnd_ ?_
          refine plan_ [(10, 91)] ?_
          refine planP_ (v := ?_) (a' := ?_) rfl rfl (any_of HT_.out (by kernel_rfl)) (fun _ _ _ h => h) (Or.inl ⟨by rfl, ?_⟩) ?_ ?_; rotate_left; (intro w'; go_simp; with_reducible rfl); rotate_left; (simp only [Act.put, List.setIfInBounds_toArray, List.set_cons_zero, List.set_cons_succ, i64_w, i32_w]; rfl)
          refine planEnd_ ?_
          refine done_ (done_of HT_.out (by kernel_rfl)) ?_
          try go_wp2
          go_ret
          exact ⟨by first | rfl | (simp [errW_none, errW_some] <;> rfl) | (simp [*, errW_none, errW_some] <;> rfl), by repeat (first | (with_reducible first | exact HB.out | apply below_alloc | apply pw_below_drewN | apply below_drew1 | refine below_set ?_ GE623.out | refine below_set ?_ GE624.out) | exact HB.out)⟩
         ·rw [if_neg c41] at H
          have c41b0 : (!((((rd_T93 l0_3 x5_2).f0).toList) == (((rd_T93 l1_3 x5_2).f0).toList)) || (!(((rd_T93 l0_3 x5_2).f1) == ((rd_T93 l1_3 x5_2).f1)) || (!(((rd_T93 l0_3 x5_2).f2) == ((rd_T93 l1_3 x5_2).f2))))) = false := by simpa using c41
          clear c41
          have H' := Aside0.mk H
          clear H
          have hnb45 := NB623_624.out
          have hnc45 := NB624_623.out
          have hcz46_0 : wr.cell? ⟨gb623, 0, none⟩ = some (.int .i64 a0_0) := (blk_cell BK623.out 0).trans rfl
          have hcz46_1 : wr.cell? ⟨gb623, 1, none⟩ = some (.int .i64 a0_1) := (blk_cell BK623.out 1).trans rfl
          have hcz46_2 : wr.cell? ⟨gb623, 2, none⟩ = some (.int .i64 a0_2) := (blk_cell BK623.out 2).trans rfl
          have hcz46_3 : wr.cell? ⟨gb623, 3, none⟩ = some (.slice A0_3 l0_3.length c0_3) := (blk_cell BK623.out 3).trans rfl
          have hcz46_4 : wr.cell? ⟨gb623, 4, none⟩ = some (.slice A0_4 l0_4.length c0_4) := (blk_cell BK623.out 4).trans rfl
          have hcz46_5 : wr.cell? ⟨gb623, 5, none⟩ = some (.slice A0_5 l0_5.length c0_5) := (blk_cell BK623.out 5).trans rfl
          have hcz46_6 : wr.cell? ⟨gb623, 6, none⟩ = some (.slice A0_6 l0_6.length c0_6) := (blk_cell BK623.out 6).trans rfl
          have hcz46_7 : wr.cell? ⟨gb623, 7, none⟩ = some (.slice A0_7 l0_7.length c0_7) := (blk_cell BK623.out 7).trans rfl
          have hfz46_0 := blk_frozen BK623.out 0
          have hfz46_1 := blk_frozen BK623.out 1
          have hfz46_2 := blk_frozen BK623.out 2
          have hfz46_3 := blk_frozen BK623.out 3
          have hfz46_4 := blk_frozen BK623.out 4
          have hfz46_5 := blk_frozen BK623.out 5
          have hfz46_6 := blk_frozen BK623.out 6
          have hfz46_7 := blk_frozen BK623.out 7
          try go_wp2
          have n0_ := Aside0.mk (blk_drew BK623.out)
          have n1_ := Aside0.mk (blk_drew BK624.out)
          have n2_ := Aside0.mk (below_drew1 HB.out)
          clear BK623 BK624 HB
          have BK623 := n0_
          have BK624 := n1_
          have HB := n2_
          clear n0_ n1_ n2_
          have p625 : 0 ≤ (x5_2 : Int) := oda
          have q625 : x5_2 < (l0_3.length : Int) := oda
          obtain ⟨ad625, e625, hx625_0, hx625_1, hx625_2⟩ := at_T93 HR0_3.out x5_2 p625 q625
          have hw625_2 := hx625_2
          have hw625_1 := hx625_1
          have hw625_0 := hx625_0
          cases e625
          replace hx625_0 := (HB.out.cell (World.block_lt_of_cell? w _ hx625_0)).trans hx625_0
          replace hx625_1 := (HB.out.cell (World.block_lt_of_cell? w _ hx625_1)).trans hx625_1
          replace hx625_2 := (HB.out.cell (World.block_lt_of_cell? w _ hx625_2)).trans hx625_2
          replace p625 := eq_true p625
          replace q625 := eq_true q625
          have p626 : 0 ≤ (x5_2 : Int) := oda
          have q626 : x5_2 < (l1_3.length : Int) := oda
          obtain ⟨ad626, e626, hx626_0, hx626_1, hx626_2⟩ := at_T93 HR1_3.out x5_2 p626 q626
          have hw626_2 := hx626_2
          have hw626_1 := hx626_1
          have hw626_0 := hx626_0
          cases e626
          replace hx626_0 := (HB.out.cell (World.block_lt_of_cell? w _ hx626_0)).trans hx626_0
          replace hx626_1 := (HB.out.cell (World.block_lt_of_cell? w _ hx626_1)).trans hx626_1
          replace hx626_2 := (HB.out.cell (World.block_lt_of_cell? w _ hx626_2)).trans hx626_2
          replace p626 := eq_true p626
          replace q626 := eq_true q626
          refine start_ (n := 11) (S := fun w' => w'.cell? ⟨gb623, 0, none⟩ = some (.int .i64 a0_0) ∧ w'.cell? ⟨gb623, 1, none⟩ = some (.int .i64 a0_1) ∧ w'.cell? ⟨gb623, 2, none⟩ = some (.int .i64 a0_2) ∧ w'.cell? ⟨gb623, 3, none⟩ = some (.slice (some ad625) l0_3.length c0_3) ∧ w'.cell? ⟨gb623, 4, none⟩ = some (.slice A0_4 l0_4.length c0_4) ∧ w'.cell? ⟨gb623, 5, none⟩ = some (.slice A0_5 l0_5.length c0_5) ∧ w'.cell? ⟨gb623, 6, none⟩ = some (.slice A0_6 l0_6.length c0_6) ∧ w'.cell? ⟨gb623, 7, none⟩ = some (.slice A0_7 l0_7.length c0_7) ∧ w'.cell? ⟨gb624, 0, none⟩ = some (.int .i64 a1_0) ∧ w'.cell? ⟨gb624, 1, none⟩ = some (.int .i64 a1_1) ∧ w'.cell? ⟨gb624, 2, none⟩ = some (.int .i64 a1_2) ∧ w'.cell? ⟨gb624, 3, none⟩ = some (.slice (some ad626) l1_3.length c1_3) ∧ w'.cell? ⟨gb624, 4, none⟩ = some (.slice A1_4 l1_4.length c1_4) ∧ w'.cell? ⟨gb624, 5, none⟩ = some (.slice A1_5 l1_5.length c1_5) ∧ w'.cell? ⟨gb624, 6, none⟩ = some (.slice A1_6 l1_6.length c1_6) ∧ w'.cell? ⟨gb624, 7, none⟩ = some (.slice A1_7 l1_7.length c1_7) ∧ w'.cell? (ad625.add ((x5_2).toNat * 3)) = some (.string ((rd_T93 l0_3 x5_2).f0)) ∧ w'.cell? ⟨(ad625.add ((x5_2).toNat * 3)).block, (ad625.add ((x5_2).toNat * 3)).off + 1, none⟩ = some (.int .i64 ((rd_T93 l0_3 x5_2).f1)) ∧ w'.cell? ⟨(ad625.add ((x5_2).toNat * 3)).block, (ad625.add ((x5_2).toNat * 3)).off + 2, none⟩ = some (.int .i64 ((rd_T93 l0_3 x5_2).f2)) ∧ w'.cell? (ad626.add ((x5_2).toNat * 3)) = some (.string ((rd_T93 l1_3 x5_2).f0)) ∧ w'.cell? ⟨(ad626.add ((x5_2).toNat * 3)).block, (ad626.add ((x5_2).toNat * 3)).off + 1, none⟩ = some (.int .i64 ((rd_T93 l1_3 x5_2).f1)) ∧ w'.cell? ⟨(ad626.add ((x5_2).toNat * 3)).block, (ad626.add ((x5_2).toNat * 3)).off + 2, none⟩ = some (.int .i64 ((rd_T93 l1_3 x5_2).f2))) (ds := []) #[false, false, false, false, false, false, false, false, false, false, false] (by kernel_rfl) rfl rfl ⟨(blk_cell BK623.out 0).trans rfl, (blk_cell BK623.out 1).trans rfl, (blk_cell BK623.out 2).trans rfl, (blk_cell BK623.out 3).trans rfl, (blk_cell BK623.out 4).trans rfl, (blk_cell BK623.out 5).trans rfl, (blk_cell BK623.out 6).trans rfl, (blk_cell BK623.out 7).trans rfl, (blk_cell BK624.out 0).trans rfl, (blk_cell BK624.out 1).trans rfl, (blk_cell BK624.out 2).trans rfl, (blk_cell BK624.out 3).trans rfl, (blk_cell BK624.out 4).trans rfl, (blk_cell BK624.out 5).trans rfl, (blk_cell BK624.out 6).trans rfl, (blk_cell BK624.out 7).trans rfl, ((HB.out.cell (World.block_lt_of_cell? w _ hw625_0)).trans hw625_0), ((HB.out.cell (World.block_lt_of_cell? w _ hw625_1)).trans hw625_1), ((HB.out.cell (World.block_lt_of_cell? w _ hw625_2)).trans hw625_2), ((HB.out.cell (World.block_lt_of_cell? w _ hw626_0)).trans hw626_0), ((HB.out.cell (World.block_lt_of_cell? w _ hw626_1)).trans hw626_1), ((HB.out.cell (World.block_lt_of_cell? w _ hw626_2)).trans hw626_2)⟩ (fun hHeld => ?_); refine with_tabW prebendref13_Same.tab6 prebendref13_Same.bits6 (fun HT_ HW_ => ?_)
          generalize wr.drew = w47 at BK623 BK624 HB hx625_0 hx625_1 hx625_2 hx626_0 hx626_1 hx626_2 hHeld ⊢
          refine plan_ [(0, 81), (2, 83), (5, 86), (7, 88)] ?_
          iterate 4 (refine planP_ (v := ?_) (a' := ?_) rfl rfl (any_of HT_.out (by kernel_rfl)) (fun _ _ _ h => h) (Or.inl ⟨by rfl, ?_⟩) ?_ ?_; rotate_left; (intro w'; go_simp; with_reducible rfl); rotate_left; (simp only [Act.put, List.setIfInBounds_toArray, List.set_cons_zero, List.set_cons_succ, i64_w, i32_w]; rfl))
          refine planEnd_ ?_
          refine plan_ [(1, 82)] ?_
          refine planT_ (v := ?_) (a' := ?_) rfl rfl (take_ofW HT_.out HW_.out (by kernel_rfl)) (fun _ _ _ h => h) (Or.inl ⟨by rfl, ?_⟩) hHeld ?_ ?_; rotate_left; (rintro w' ⟨s0, s1, s2, s3, s4, s5, s6, s7, s8, s9, s10, s11, s12, s13, s14, s15, s16, s17, s18, s19, s20, s21⟩; go_simp; with_reducible rfl); rotate_left; (simp only [Act.put, List.setIfInBounds_toArray, List.set_cons_zero, List.set_cons_succ, i64_w, i32_w]; rfl)
          refine planEnd_ ?_
          refine plan_ [(3, 84)] ?_
          refine planP_ (v := ?_) (a' := ?_) rfl rfl (any_of HT_.out (by kernel_rfl)) (fun _ _ _ h => h) (Or.inl ⟨by rfl, ?_⟩) ?_ ?_; rotate_left; (intro w'; go_simp; with_reducible rfl); rotate_left; (simp only [Act.put, List.setIfInBounds_toArray, List.set_cons_zero, List.set_cons_succ, i64_w, i32_w]; rfl)
          refine planEnd_ ?_
          refine plan_ [(4, 85), (6, 87)] ?_
          iterate 2 (refine planT_ (v := ?_) (a' := ?_) rfl rfl (take_ofW HT_.out HW_.out (by kernel_rfl)) (fun _ _ _ h => h) (Or.inl ⟨by rfl, ?_⟩) hHeld ?_ ?_; rotate_left; (rintro w' ⟨s0, s1, s2, s3, s4, s5, s6, s7, s8, s9, s10, s11, s12, s13, s14, s15, s16, s17, s18, s19, s20, s21⟩; go_simp; with_reducible rfl); rotate_left; (simp only [Act.put, List.setIfInBounds_toArray, List.set_cons_zero, List.set_cons_succ, i64_w, i32_w]; rfl))
          refine planEnd_ ?_
          refine plan_ [(8, 89)] ?_
          refine planP_ (v := ?_) (a' := ?_) rfl rfl (any_of HT_.out (by kernel_rfl)) (fun _ _ _ h => h) (Or.inl ⟨by rfl, ?_⟩) ?_ ?_; rotate_left; (intro w'; go_simp; with_reducible rfl); rotate_left; (simp only [Act.put, List.setIfInBounds_toArray, List.set_cons_zero, List.set_cons_succ, i64_w, i32_w]; rfl)
          refine planEnd_ ?_
          refine plan_ [(9, 90)] ?_
          refine planT_ (v := ?_) (a' := ?_) rfl rfl (take_ofW HT_.out HW_.out (by kernel_rfl)) (fun _ _ _ h => h) (Or.inl ⟨by rfl, ?_⟩) hHeld ?_ ?_; rotate_left; (rintro w' ⟨s0, s1, s2, s3, s4, s5, s6, s7, s8, s9, s10, s11, s12, s13, s14, s15, s16, s17, s18, s19, s20, s21⟩; go_simp; with_reducible rfl); rotate_left; (simp only [Act.put, List.setIfInBounds_toArray, List.set_cons_zero, List.set_cons_succ, i64_w, i32_w]; rfl)
          refine planEnd_ ?_
          refine plan_ [(10, 91)] ?_
          refine planP_ (v := ?_) (a' := ?_) rfl rfl (any_of HT_.out (by kernel_rfl)) (fun _ _ _ h => h) (Or.inl ⟨by rfl, ?_⟩) ?_ ?_; rotate_left; (intro w'; go_simp; with_reducible rfl); rotate_left; (simp only [Act.put, List.setIfInBounds_toArray, List.set_cons_zero, List.set_cons_succ, i64_w, i32_w]; rfl)
          refine planEnd_ ?_
          refine done_ (done_of HT_.out (by kernel_rfl)) ?_
          try go_wp2
          go_roundg k2
          case measure => have := HJ2.out; have := HK2.out; omega
          case rel => exact ⟨(wrap64 (x5_2 + 1)), ez, H', ⟨by have := HJ2.out; have := HK2.out; omega⟩, ⟨mBK BK623.out⟩, ⟨mBK BK624.out⟩, ⟨mBs HB.out⟩⟩
        ·rw [if_neg c40] at H
         exact absurd H (by simp)
       ·rw [if_neg c39] at H
        exact absurd H (by simp)
      ·rw [if_neg c38] at H
       have c38b0 : decide (x5_2 < (l0_3.length : Int)) = false := decide_eq_false c38
       clear c38
       have H' := Aside0.mk H
       clear H
       have hnb48 := NB623_624.out
       have hnc48 := NB624_623.out
       have hcz49_0 : wr.cell? ⟨gb623, 0, none⟩ = some (.int .i64 a0_0) := (blk_cell BK623.out 0).trans rfl
       have hcz49_1 : wr.cell? ⟨gb623, 1, none⟩ = some (.int .i64 a0_1) := (blk_cell BK623.out 1).trans rfl
       have hcz49_2 : wr.cell? ⟨gb623, 2, none⟩ = some (.int .i64 a0_2) := (blk_cell BK623.out 2).trans rfl
       have hcz49_3 : wr.cell? ⟨gb623, 3, none⟩ = some (.slice A0_3 l0_3.length c0_3) := (blk_cell BK623.out 3).trans rfl
       have hcz49_4 : wr.cell? ⟨gb623, 4, none⟩ = some (.slice A0_4 l0_4.length c0_4) := (blk_cell BK623.out 4).trans rfl
       have hcz49_5 : wr.cell? ⟨gb623, 5, none⟩ = some (.slice A0_5 l0_5.length c0_5) := (blk_cell BK623.out 5).trans rfl
       have hcz49_6 : wr.cell? ⟨gb623, 6, none⟩ = some (.slice A0_6 l0_6.length c0_6) := (blk_cell BK623.out 6).trans rfl
       have hcz49_7 : wr.cell? ⟨gb623, 7, none⟩ = some (.slice A0_7 l0_7.length c0_7) := (blk_cell BK623.out 7).trans rfl
       have hfz49_0 := blk_frozen BK623.out 0
       have hfz49_1 := blk_frozen BK623.out 1
       have hfz49_2 := blk_frozen BK623.out 2
       have hfz49_3 := blk_frozen BK623.out 3
       have hfz49_4 := blk_frozen BK623.out 4
       have hfz49_5 := blk_frozen BK623.out 5
       have hfz49_6 := blk_frozen BK623.out 6
       have hfz49_7 := blk_frozen BK623.out 7
       go_wp2
       go_loopg [6] k2 (fun kq v6 w' => ∃ (x6_3 : Int), v6 = .int .i64 x6_3 ∧ Aside0 (prebendref13_Same.l1 kq x6_3 a0_0 a0_1 a0_2 l0_3 l0_4 l0_5 l0_6 l0_7 a1_0 a1_1 a1_2 l1_3 l1_4 l1_5 l1_6 l1_7 = some r) ∧ Aside0 (kq ≤ k2) ∧ Aside0 (w'.heap[gb623]? = some (.cells #[.int .i64 a0_0, .int .i64 a0_1, .int .i64 a0_2, (.slice A0_3 l0_3.length c0_3), (.slice A0_4 l0_4.length c0_4), (.slice A0_5 l0_5.length c0_5), (.slice A0_6 l0_6.length c0_6), (.slice A0_7 l0_7.length c0_7)] 67 (0, 0))) ∧ Aside0 (w'.heap[gb624]? = some (.cells #[.int .i64 a1_0, .int .i64 a1_1, .int .i64 a1_2, (.slice A1_3 l1_3.length c1_3), (.slice A1_4 l1_4.length c1_4), (.slice A1_5 l1_5.length c1_5), (.slice A1_6 l1_6.length c1_6), (.slice A1_7 l1_7.length c1_7)] 67 (0, 0))) ∧ Aside0 (Below w.heap.size w w'))
       case atStart => exact ⟨(0), ez, H', ⟨Nat.le_refl _⟩, ⟨mBK BK623.out⟩, ⟨mBK BK624.out⟩, ⟨mBs HB.out⟩⟩
       case round =>
        clear H'
        clear c38b0 hcz49_0 hcz49_1 hcz49_2 hcz49_3 hcz49_4 hcz49_5 hcz49_6 hcz49_7 hfz49_0 hfz49_1 hfz49_2 hfz49_3 hfz49_4 hfz49_5 hfz49_6 hfz49_7
        obtain ⟨x6_3, rfl, HA, HK3, BK623, BK624, HB⟩ := hrel
        cases gk with
        | zero => exact absurd HA.out (by simp [prebendref13_Same.l1])
        | succ k3 =>
         have H := HA.out
         clear HA
         simp only [prebendref13_Same.l1] at H
         by_cases c50 : x6_3 < (l0_4.length : Int)
         ·rw [if_pos c50] at H
          have c50b0 : decide (x6_3 < (l0_4.length : Int)) = true := decide_eq_true c50
          clear c50
          by_cases c51 : 0 ≤ x6_3
          ·rw [if_pos c51] at H
           have c51b0 : decide (0 ≤ x6_3) = true := decide_eq_true c51
           clear c51
           by_cases c52 : x6_3 < (l1_4.length : Int)
           ·rw [if_pos c52] at H
            have c52b0 : decide (x6_3 < (l1_4.length : Int)) = true := decide_eq_true c52
            clear c52
            by_cases c53 : (!(((rd_T95 l0_4 x6_3).f0) == ((rd_T95 l1_4 x6_3).f0)) || (!(((rd_T95 l0_4 x6_3).f1) == ((rd_T95 l1_4 x6_3).f1)) || (!(((rd_T95 l0_4 x6_3).f2) == ((rd_T95 l1_4 x6_3).f2)) || (!(((rd_T95 l0_4 x6_3).f3) == ((rd_T95 l1_4 x6_3).f3)) || (!(((rd_T95 l0_4 x6_3).f4) == ((rd_T95 l1_4 x6_3).f4)) || (!(((rd_T95 l0_4 x6_3).f5) == ((rd_T95 l1_4 x6_3).f5)))))))) = true
            ·rw [if_pos c53] at H
             have c53b0 : (!(((rd_T95 l0_4 x6_3).f0) == ((rd_T95 l1_4 x6_3).f0)) || (!(((rd_T95 l0_4 x6_3).f1) == ((rd_T95 l1_4 x6_3).f1)) || (!(((rd_T95 l0_4 x6_3).f2) == ((rd_T95 l1_4 x6_3).f2)) || (!(((rd_T95 l0_4 x6_3).f3) == ((rd_T95 l1_4 x6_3).f3)) || (!(((rd_T95 l0_4 x6_3).f4) == ((rd_T95 l1_4 x6_3).f4)) || (!(((rd_T95 l0_4 x6_3).f5) == ((rd_T95 l1_4 x6_3).f5)))))))) = true := c53
             clear c53
             obtain rfl := Option.some.inj H
             have hnb54 := NB623_624.out
             have hnc54 := NB624_623.out
             have hcz55_0 : wr.cell? ⟨gb623, 0, none⟩ = some (.int .i64 a0_0) := (blk_cell BK623.out 0).trans rfl
             have hcz55_1 : wr.cell? ⟨gb623, 1, none⟩ = some (.int .i64 a0_1) := (blk_cell BK623.out 1).trans rfl
             have hcz55_2 : wr.cell? ⟨gb623, 2, none⟩ = some (.int .i64 a0_2) := (blk_cell BK623.out 2).trans rfl
             have hcz55_3 : wr.cell? ⟨gb623, 3, none⟩ = some (.slice A0_3 l0_3.length c0_3) := (blk_cell BK623.out 3).trans rfl
             have hcz55_4 : wr.cell? ⟨gb623, 4, none⟩ = some (.slice A0_4 l0_4.length c0_4) := (blk_cell BK623.out 4).trans rfl
             have hcz55_5 : wr.cell? ⟨gb623, 5, none⟩ = some (.slice A0_5 l0_5.length c0_5) := (blk_cell BK623.out 5).trans rfl
             have hcz55_6 : wr.cell? ⟨gb623, 6, none⟩ = some (.slice A0_6 l0_6.length c0_6) := (blk_cell BK623.out 6).trans rfl
             have hcz55_7 : wr.cell? ⟨gb623, 7, none⟩ = some (.slice A0_7 l0_7.length c0_7) := (blk_cell BK623.out 7).trans rfl
             have hfz55_0 := blk_frozen BK623.out 0
             have hfz55_1 := blk_frozen BK623.out 1
             have hfz55_2 := blk_frozen BK623.out 2
             have hfz55_3 := blk_frozen BK623.out 3
             have hfz55_4 := blk_frozen BK623.out 4
             have hfz55_5 := blk_frozen BK623.out 5
             have hfz55_6 := blk_frozen BK623.out 6
             have hfz55_7 := blk_frozen BK623.out 7
             try go_wp2
             have n0_ := Aside0.mk (blk_drew BK623.out)
             have n1_ := Aside0.mk (blk_drew BK624.out)
             have n2_ := Aside0.mk (below_drew1 HB.out)
             clear BK623 BK624 HB
             have BK623 := n0_
             have BK624 := n1_
             have HB := n2_
             clear n0_ n1_ n2_
             have p627 : 0 ≤ (x6_3 : Int) := oda
             have q627 : x6_3 < (l0_4.length : Int) := oda
             obtain ⟨ad627, e627, hx627_0, hx627_1, hx627_2, hx627_3, hx627_4, hx627_5⟩ := at_T95 HR0_4.out x6_3 p627 q627
             have hw627_5 := hx627_5
             have hw627_4 := hx627_4
             have hw627_3 := hx627_3
             have hw627_2 := hx627_2
             have hw627_1 := hx627_1
             have hw627_0 := hx627_0
             cases e627
             replace hx627_0 := (HB.out.cell (World.block_lt_of_cell? w _ hx627_0)).trans hx627_0
             replace hx627_1 := (HB.out.cell (World.block_lt_of_cell? w _ hx627_1)).trans hx627_1
             replace hx627_2 := (HB.out.cell (World.block_lt_of_cell? w _ hx627_2)).trans hx627_2
             replace hx627_3 := (HB.out.cell (World.block_lt_of_cell? w _ hx627_3)).trans hx627_3
             replace hx627_4 := (HB.out.cell (World.block_lt_of_cell? w _ hx627_4)).trans hx627_4
             replace hx627_5 := (HB.out.cell (World.block_lt_of_cell? w _ hx627_5)).trans hx627_5
             replace p627 := eq_true p627
             replace q627 := eq_true q627
             have p628 : 0 ≤ (x6_3 : Int) := oda
             have q628 : x6_3 < (l1_4.length : Int) := oda
             obtain ⟨ad628, e628, hx628_0, hx628_1, hx628_2, hx628_3, hx628_4, hx628_5⟩ := at_T95 HR1_4.out x6_3 p628 q628
             have hw628_5 := hx628_5
             have hw628_4 := hx628_4
             have hw628_3 := hx628_3
             have hw628_2 := hx628_2
             have hw628_1 := hx628_1
             have hw628_0 := hx628_0
             cases e628
             replace hx628_0 := (HB.out.cell (World.block_lt_of_cell? w _ hx628_0)).trans hx628_0
             replace hx628_1 := (HB.out.cell (World.block_lt_of_cell? w _ hx628_1)).trans hx628_1
             replace hx628_2 := (HB.out.cell (World.block_lt_of_cell? w _ hx628_2)).trans hx628_2
             replace hx628_3 := (HB.out.cell (World.block_lt_of_cell? w _ hx628_3)).trans hx628_3
             replace hx628_4 := (HB.out.cell (World.block_lt_of_cell? w _ hx628_4)).trans hx628_4
             replace hx628_5 := (HB.out.cell (World.block_lt_of_cell? w _ hx628_5)).trans hx628_5
             replace p628 := eq_true p628
             replace q628 := eq_true q628
             refine start_ (n := 11) (S := fun w' => w'.cell? ⟨gb623, 0, none⟩ = some (.int .i64 a0_0) ∧ w'.cell? ⟨gb623, 1, none⟩ = some (.int .i64 a0_1) ∧ w'.cell? ⟨gb623, 2, none⟩ = some (.int .i64 a0_2) ∧ w'.cell? ⟨gb623, 3, none⟩ = some (.slice A0_3 l0_3.length c0_3) ∧ w'.cell? ⟨gb623, 4, none⟩ = some (.slice (some ad627) l0_4.length c0_4) ∧ w'.cell? ⟨gb623, 5, none⟩ = some (.slice A0_5 l0_5.length c0_5) ∧ w'.cell? ⟨gb623, 6, none⟩ = some (.slice A0_6 l0_6.length c0_6) ∧ w'.cell? ⟨gb623, 7, none⟩ = some (.slice A0_7 l0_7.length c0_7) ∧ w'.cell? ⟨gb624, 0, none⟩ = some (.int .i64 a1_0) ∧ w'.cell? ⟨gb624, 1, none⟩ = some (.int .i64 a1_1) ∧ w'.cell? ⟨gb624, 2, none⟩ = some (.int .i64 a1_2) ∧ w'.cell? ⟨gb624, 3, none⟩ = some (.slice A1_3 l1_3.length c1_3) ∧ w'.cell? ⟨gb624, 4, none⟩ = some (.slice (some ad628) l1_4.length c1_4) ∧ w'.cell? ⟨gb624, 5, none⟩ = some (.slice A1_5 l1_5.length c1_5) ∧ w'.cell? ⟨gb624, 6, none⟩ = some (.slice A1_6 l1_6.length c1_6) ∧ w'.cell? ⟨gb624, 7, none⟩ = some (.slice A1_7 l1_7.length c1_7) ∧ w'.cell? (ad627.add ((x6_3).toNat * 6)) = some (.int .i64 ((rd_T95 l0_4 x6_3).f0)) ∧ w'.cell? ⟨(ad627.add ((x6_3).toNat * 6)).block, (ad627.add ((x6_3).toNat * 6)).off + 1, none⟩ = some (.int .i64 ((rd_T95 l0_4 x6_3).f1)) ∧ w'.cell? ⟨(ad627.add ((x6_3).toNat * 6)).block, (ad627.add ((x6_3).toNat * 6)).off + 2, none⟩ = some (.int .i64 ((rd_T95 l0_4 x6_3).f2)) ∧ w'.cell? ⟨(ad627.add ((x6_3).toNat * 6)).block, (ad627.add ((x6_3).toNat * 6)).off + 3, none⟩ = some (.int .i64 ((rd_T95 l0_4 x6_3).f3)) ∧ w'.cell? ⟨(ad627.add ((x6_3).toNat * 6)).block, (ad627.add ((x6_3).toNat * 6)).off + 4, none⟩ = some (.int .i64 ((rd_T95 l0_4 x6_3).f4)) ∧ w'.cell? ⟨(ad627.add ((x6_3).toNat * 6)).block, (ad627.add ((x6_3).toNat * 6)).off + 5, none⟩ = some (.int .i64 ((rd_T95 l0_4 x6_3).f5)) ∧ w'.cell? (ad628.add ((x6_3).toNat * 6)) = some (.int .i64 ((rd_T95 l1_4 x6_3).f0)) ∧ w'.cell? ⟨(ad628.add ((x6_3).toNat * 6)).block, (ad628.add ((x6_3).toNat * 6)).off + 1, none⟩ = some (.int .i64 ((rd_T95 l1_4 x6_3).f1)) ∧ w'.cell? ⟨(ad628.add ((x6_3).toNat * 6)).block, (ad628.add ((x6_3).toNat * 6)).off + 2, none⟩ = some (.int .i64 ((rd_T95 l1_4 x6_3).f2)) ∧ w'.cell? ⟨(ad628.add ((x6_3).toNat * 6)).block, (ad628.add ((x6_3).toNat * 6)).off + 3, none⟩ = some (.int .i64 ((rd_T95 l1_4 x6_3).f3)) ∧ w'.cell? ⟨(ad628.add ((x6_3).toNat * 6)).block, (ad628.add ((x6_3).toNat * 6)).off + 4, none⟩ = some (.int .i64 ((rd_T95 l1_4 x6_3).f4)) ∧ w'.cell? ⟨(ad628.add ((x6_3).toNat * 6)).block, (ad628.add ((x6_3).toNat * 6)).off + 5, none⟩ = some (.int .i64 ((rd_T95 l1_4 x6_3).f5))) (ds := []) #[false, false, false, false, false, false, false, false, false, false, false] (by kernel_rfl) rfl rfl ⟨(blk_cell BK623.out 0).trans rfl, (blk_cell BK623.out 1).trans rfl, (blk_cell BK623.out 2).trans rfl, (blk_cell BK623.out 3).trans rfl, (blk_cell BK623.out 4).trans rfl, (blk_cell BK623.out 5).trans rfl, (blk_cell BK623.out 6).trans rfl, (blk_cell BK623.out 7).trans rfl, (blk_cell BK624.out 0).trans rfl, (blk_cell BK624.out 1).trans rfl, (blk_cell BK624.out 2).trans rfl, (blk_cell BK624.out 3).trans rfl, (blk_cell BK624.out 4).trans rfl, (blk_cell BK624.out 5).trans rfl, (blk_cell BK624.out 6).trans rfl, (blk_cell BK624.out 7).trans rfl, ((HB.out.cell (World.block_lt_of_cell? w _ hw627_0)).trans hw627_0), ((HB.out.cell (World.block_lt_of_cell? w _ hw627_1)).trans hw627_1), ((HB.out.cell (World.block_lt_of_cell? w _ hw627_2)).trans hw627_2), ((HB.out.cell (World.block_lt_of_cell? w _ hw627_3)).trans hw627_3), ((HB.out.cell (World.block_lt_of_cell? w _ hw627_4)).trans hw627_4), ((HB.out.cell (World.block_lt_of_cell? w _ hw627_5)).trans hw627_5), ((HB.out.cell (World.block_lt_of_cell? w _ hw628_0)).trans hw628_0), ((HB.out.cell (World.block_lt_of_cell? w _ hw628_1)).trans hw628_1), ((HB.out.cell (World.block_lt_of_cell? w _ hw628_2)).trans hw628_2), ((HB.out.cell (World.block_lt_of_cell? w _ hw628_3)).trans hw628_3), ((HB.out.cell (World.block_lt_of_cell? w _ hw628_4)).trans hw628_4), ((HB.out.cell (World.block_lt_of_cell? w _ hw628_5)).trans hw628_5)⟩ (fun hHeld => ?_); refine with_tabW prebendref13_Same.tab11 prebendref13_Same.bits11 (fun HT_ HW_ => ?_)
             generalize wr.drew = w56 at BK623 BK624 HB hx627_0 hx627_1 hx627_2 hx627_3 hx627_4 hx627_5 hx628_0 hx628_1 hx628_2 hx628_3 hx628_4 hx628_5 hHeld ⊢
             refine plan_ [(0, 99), (2, 101), (5, 104), (7, 106)] ?_
             iterate 4 (refine planP_ (v := ?_) (a' := ?_) rfl rfl (any_of HT_.out (by kernel_rfl)) (fun _ _ _ h => h) (Or.inl ⟨by rfl, ?_⟩) ?_ ?_; rotate_left; (intro w'; go_simp; with_reducible rfl); rotate_left; (simp only [Act.put, List.setIfInBounds_toArray, List.set_cons_zero, List.set_cons_succ, i64_w, i32_w]; rfl))
             refine planEnd_ ?_
             refine plan_ [(1, 100)] ?_
             refine planT_ (v := ?_) (a' := ?_) rfl rfl (take_ofW HT_.out HW_.out (by kernel_rfl)) (fun _ _ _ h => h) (Or.inl ⟨by rfl, ?_⟩) hHeld ?_ ?_; rotate_left; (rintro w' ⟨s0, s1, s2, s3, s4, s5, s6, s7, s8, s9, s10, s11, s12, s13, s14, s15, s16, s17, s18, s19, s20, s21, s22, s23, s24, s25, s26, s27⟩; go_simp; with_reducible rfl); rotate_left; (simp only [Act.put, List.setIfInBounds_toArray, List.set_cons_zero, List.set_cons_succ, i64_w, i32_w]; rfl)
             refine planEnd_ ?_
             refine plan_ [(3, 102)] ?_
             refine planP_ (v := ?_) (a' := ?_) rfl rfl (any_of HT_.out (by kernel_rfl)) (fun _ _ _ h => h) (Or.inl ⟨by rfl, ?_⟩) ?_ ?_; rotate_left; (intro w'; go_simp; with_reducible rfl); rotate_left; (simp only [Act.put, List.setIfInBounds_toArray, List.set_cons_zero, List.set_cons_succ, i64_w, i32_w]; rfl)
             refine planEnd_ ?_
             refine plan_ [(4, 103), (6, 105)] ?_
             iterate 2 (refine planT_ (v := ?_) (a' := ?_) rfl rfl (take_ofW HT_.out HW_.out (by kernel_rfl)) (fun _ _ _ h => h) (Or.inl ⟨by rfl, ?_⟩) hHeld ?_ ?_; rotate_left; (rintro w' ⟨s0, s1, s2, s3, s4, s5, s6, s7, s8, s9, s10, s11, s12, s13, s14, s15, s16, s17, s18, s19, s20, s21, s22, s23, s24, s25, s26, s27⟩; go_simp; with_reducible rfl); rotate_left; (simp only [Act.put, List.setIfInBounds_toArray, List.set_cons_zero, List.set_cons_succ, i64_w, i32_w]; rfl))
             refine planEnd_ ?_
             refine plan_ [(8, 107)] ?_
             refine planP_ (v := ?_) (a' := ?_) rfl rfl (any_of HT_.out (by kernel_rfl)) (fun _ _ _ h => h) (Or.inl ⟨by rfl, ?_⟩) ?_ ?_; rotate_left; (intro w'; go_simp; with_reducible rfl); rotate_left; (simp only [Act.put, List.setIfInBounds_toArray, List.set_cons_zero, List.set_cons_succ, i64_w, i32_w]; rfl)
             refine planEnd_ ?_
             refine plan_ [(9, 108)] ?_
             refine planT_ (v := ?_) (a' := ?_) rfl rfl (take_ofW HT_.out HW_.out (by kernel_rfl)) (fun _ _ _ h => h) (Or.inl ⟨by rfl, ?_⟩) hHeld ?_ ?_; rotate_left; (rintro w' ⟨s0, s1, s2, s3, s4, s5, s6, s7, s8, s9, s10, s11, s12, s13, s14, s15, s16, s17, s18, s19, s20, s21, s22, s23, s24, s25, s26, s27⟩; go_simp; with_reducible rfl); rotate_left; (simp only [Act.put, List.setIfInBounds_toArray, List.set_cons_zero, List.set_cons_succ, i64_w, i32_w]; rfl)
             refine planEnd_ ?_
             refine plan_ [(10, 109)] ?_
             refine planP_ (v := ?_) (a' := ?_) rfl rfl (any_of HT_.out (by kernel_rfl)) (fun _ _ _ h => h) (Or.inl ⟨by rfl, ?_⟩) ?_ ?_; rotate_left; (intro w'; go_simp; with_reducible rfl); rotate_left; (simp only [Act.put, List.setIfInBounds_toArray, List.set_cons_zero, List.set_cons_succ, i64_w, i32_w]; rfl)
             refine planEnd_ ?_
             refine done_ (done_of HT_.out (by kernel_rfl)) ?_
             try go_wp2
             go_ret
             exact ⟨by first | rfl | (simp [errW_none, errW_some] <;> rfl) | (simp [*, errW_none, errW_some] <;> rfl), by repeat (first | (with_reducible first | exact HB.out | apply below_alloc | apply pw_below_drewN | apply below_drew1 | refine below_set ?_ GE623.out | refine below_set ?_ GE624.out) | exact HB.out)⟩
            ·rw [if_neg c53] at H
             have c53b0 : (!(((rd_T95 l0_4 x6_3).f0) == ((rd_T95 l1_4 x6_3).f0)) || (!(((rd_T95 l0_4 x6_3).f1) == ((rd_T95 l1_4 x6_3).f1)) || (!(((rd_T95 l0_4 x6_3).f2) == ((rd_T95 l1_4 x6_3).f2)) || (!(((rd_T95 l0_4 x6_3).f3) == ((rd_T95 l1_4 x6_3).f3)) || (!(((rd_T95 l0_4 x6_3).f4) == ((rd_T95 l1_4 x6_3).f4)) || (!(((rd_T95 l0_4 x6_3).f5) == ((rd_T95 l1_4 x6_3).f5)))))))) = false := by simpa using c53
             clear c53
             have H' := Aside0.mk H
             clear H
             have hnb57 := NB623_624.out
             have hnc57 := NB624_623.out
             have hcz58_0 : wr.cell? ⟨gb623, 0, none⟩ = some (.int .i64 a0_0) := (blk_cell BK623.out 0).trans rfl
             have hcz58_1 : wr.cell? ⟨gb623, 1, none⟩ = some (.int .i64 a0_1) := (blk_cell BK623.out 1).trans rfl
             have hcz58_2 : wr.cell? ⟨gb623, 2, none⟩ = some (.int .i64 a0_2) := (blk_cell BK623.out 2).trans rfl
             have hcz58_3 : wr.cell? ⟨gb623, 3, none⟩ = some (.slice A0_3 l0_3.length c0_3) := (blk_cell BK623.out 3).trans rfl
             have hcz58_4 : wr.cell? ⟨gb623, 4, none⟩ = some (.slice A0_4 l0_4.length c0_4) := (blk_cell BK623.out 4).trans rfl
             have hcz58_5 : wr.cell? ⟨gb623, 5, none⟩ = some (.slice A0_5 l0_5.length c0_5) := (blk_cell BK623.out 5).trans rfl
             have hcz58_6 : wr.cell? ⟨gb623, 6, none⟩ = some (.slice A0_6 l0_6.length c0_6) := (blk_cell BK623.out 6).trans rfl
             have hcz58_7 : wr.cell? ⟨gb623, 7, none⟩ = some (.slice A0_7 l0_7.length c0_7) := (blk_cell BK623.out 7).trans rfl
             have hfz58_0 := blk_frozen BK623.out 0
             have hfz58_1 := blk_frozen BK623.out 1
             have hfz58_2 := blk_frozen BK623.out 2
             have hfz58_3 := blk_frozen BK623.out 3
             have hfz58_4 := blk_frozen BK623.out 4
             have hfz58_5 := blk_frozen BK623.out 5
             have hfz58_6 := blk_frozen BK623.out 6
             have hfz58_7 := blk_frozen BK623.out 7
             try go_wp2
             have n0_ := Aside0.mk (blk_drew BK623.out)
             have n1_ := Aside0.mk (blk_drew BK624.out)
             have n2_ := Aside0.mk (below_drew1 HB.out)
             clear BK623 BK624 HB
             have BK623 := n0_
             have BK624 := n1_
             have HB := n2_
             clear n0_ n1_ n2_
             have p627 : 0 ≤ (x6_3 : Int) := oda
             have q627 : x6_3 < (l0_4.length : Int) := oda
             obtain ⟨ad627, e627, hx627_0, hx627_1, hx627_2, hx627_3, hx627_4, hx627_5⟩ := at_T95 HR0_4.out x6_3 p627 q627
             have hw627_5 := hx627_5
             have hw627_4 := hx627_4
             have hw627_3 := hx627_3
             have hw627_2 := hx627_2
             have hw627_1 := hx627_1
             have hw627_0 := hx627_0
             cases e627
             replace hx627_0 := (HB.out.cell (World.block_lt_of_cell? w _ hx627_0)).trans hx627_0
             replace hx627_1 := (HB.out.cell (World.block_lt_of_cell? w _ hx627_1)).trans hx627_1
             replace hx627_2 := (HB.out.cell (World.block_lt_of_cell? w _ hx627_2)).trans hx627_2
             replace hx627_3 := (HB.out.cell (World.block_lt_of_cell? w _ hx627_3)).trans hx627_3
             replace hx627_4 := (HB.out.cell (World.block_lt_of_cell? w _ hx627_4)).trans hx627_4
             replace hx627_5 := (HB.out.cell (World.block_lt_of_cell? w _ hx627_5)).trans hx627_5
             replace p627 := eq_true p627
             replace q627 := eq_true q627
             have p628 : 0 ≤ (x6_3 : Int) := oda
             have q628 : x6_3 < (l1_4.length : Int) := oda
             obtain ⟨ad628, e628, hx628_0, hx628_1, hx628_2, hx628_3, hx628_4, hx628_5⟩ := at_T95 HR1_4.out x6_3 p628 q628
             have hw628_5 := hx628_5
             have hw628_4 := hx628_4
             have hw628_3 := hx628_3
             have hw628_2 := hx628_2
             have hw628_1 := hx628_1
             have hw628_0 := hx628_0
             cases e628
             replace hx628_0 := (HB.out.cell (World.block_lt_of_cell? w _ hx628_0)).trans hx628_0
             replace hx628_1 := (HB.out.cell (World.block_lt_of_cell? w _ hx628_1)).trans hx628_1
             replace hx628_2 := (HB.out.cell (World.block_lt_of_cell? w _ hx628_2)).trans hx628_2
             replace hx628_3 := (HB.out.cell (World.block_lt_of_cell? w _ hx628_3)).trans hx628_3
             replace hx628_4 := (HB.out.cell (World.block_lt_of_cell? w _ hx628_4)).trans hx628_4
             replace hx628_5 := (HB.out.cell (World.block_lt_of_cell? w _ hx628_5)).trans hx628_5
             replace p628 := eq_true p628
             replace q628 := eq_true q628
             refine start_ (n := 11) (S := fun w' => w'.cell? ⟨gb623, 0, none⟩ = some (.int .i64 a0_0) ∧ w'.cell? ⟨gb623, 1, none⟩ = some (.int .i64 a0_1) ∧ w'.cell? ⟨gb623, 2, none⟩ = some (.int .i64 a0_2) ∧ w'.cell? ⟨gb623, 3, none⟩ = some (.slice A0_3 l0_3.length c0_3) ∧ w'.cell? ⟨gb623, 4, none⟩ = some (.slice (some ad627) l0_4.length c0_4) ∧ w'.cell? ⟨gb623, 5, none⟩ = some (.slice A0_5 l0_5.length c0_5) ∧ w'.cell? ⟨gb623, 6, none⟩ = some (.slice A0_6 l0_6.length c0_6) ∧ w'.cell? ⟨gb623, 7, none⟩ = some (.slice A0_7 l0_7.length c0_7) ∧ w'.cell? ⟨gb624, 0, none⟩ = some (.int .i64 a1_0) ∧ w'.cell? ⟨gb624, 1, none⟩ = some (.int .i64 a1_1) ∧ w'.cell? ⟨gb624, 2, none⟩ = some (.int .i64 a1_2) ∧ w'.cell? ⟨gb624, 3, none⟩ = some (.slice A1_3 l1_3.length c1_3) ∧ w'.cell? ⟨gb624, 4, none⟩ = some (.slice (some ad628) l1_4.length c1_4) ∧ w'.cell? ⟨gb624, 5, none⟩ = some (.slice A1_5 l1_5.length c1_5) ∧ w'.cell? ⟨gb624, 6, none⟩ = some (.slice A1_6 l1_6.length c1_6) ∧ w'.cell? ⟨gb624, 7, none⟩ = some (.slice A1_7 l1_7.length c1_7) ∧ w'.cell? (ad627.add ((x6_3).toNat * 6)) = some (.int .i64 ((rd_T95 l0_4 x6_3).f0)) ∧ w'.cell? ⟨(ad627.add ((x6_3).toNat * 6)).block, (ad627.add ((x6_3).toNat * 6)).off + 1, none⟩ = some (.int .i64 ((rd_T95 l0_4 x6_3).f1)) ∧ w'.cell? ⟨(ad627.add ((x6_3).toNat * 6)).block, (ad627.add ((x6_3).toNat * 6)).off + 2, none⟩ = some (.int .i64 ((rd_T95 l0_4 x6_3).f2)) ∧ w'.cell? ⟨(ad627.add ((x6_3).toNat * 6)).block, (ad627.add ((x6_3).toNat * 6)).off + 3, none⟩ = some (.int .i64 ((rd_T95 l0_4 x6_3).f3)) ∧ w'.cell? ⟨(ad627.add ((x6_3).toNat * 6)).block, (ad627.add ((x6_3).toNat * 6)).off + 4, none⟩ = some (.int .i64 ((rd_T95 l0_4 x6_3).f4)) ∧ w'.cell? ⟨(ad627.add ((x6_3).toNat * 6)).block, (ad627.add ((x6_3).toNat * 6)).off + 5, none⟩ = some (.int .i64 ((rd_T95 l0_4 x6_3).f5)) ∧ w'.cell? (ad628.add ((x6_3).toNat * 6)) = some (.int .i64 ((rd_T95 l1_4 x6_3).f0)) ∧ w'.cell? ⟨(ad628.add ((x6_3).toNat * 6)).block, (ad628.add ((x6_3).toNat * 6)).off + 1, none⟩ = some (.int .i64 ((rd_T95 l1_4 x6_3).f1)) ∧ w'.cell? ⟨(ad628.add ((x6_3).toNat * 6)).block, (ad628.add ((x6_3).toNat * 6)).off + 2, none⟩ = some (.int .i64 ((rd_T95 l1_4 x6_3).f2)) ∧ w'.cell? ⟨(ad628.add ((x6_3).toNat * 6)).block, (ad628.add ((x6_3).toNat * 6)).off + 3, none⟩ = some (.int .i64 ((rd_T95 l1_4 x6_3).f3)) ∧ w'.cell? ⟨(ad628.add ((x6_3).toNat * 6)).block, (ad628.add ((x6_3).toNat * 6)).off + 4, none⟩ = some (.int .i64 ((rd_T95 l1_4 x6_3).f4)) ∧ w'.cell? ⟨(ad628.add ((x6_3).toNat * 6)).block, (ad628.add ((x6_3).toNat * 6)).off + 5, none⟩ = some (.int .i64 ((rd_T95 l1_4 x6_3).f5))) (ds := []) #[false, false, false, false, false, false, false, false, false, false, false] (by kernel_rfl) rfl rfl ⟨(blk_cell BK623.out 0).trans rfl, (blk_cell BK623.out 1).trans rfl, (blk_cell BK623.out 2).trans rfl, (blk_cell BK623.out 3).trans rfl, (blk_cell BK623.out 4).trans rfl, (blk_cell BK623.out 5).trans rfl, (blk_cell BK623.out 6).trans rfl, (blk_cell BK623.out 7).trans rfl, (blk_cell BK624.out 0).trans rfl, (blk_cell BK624.out 1).trans rfl, (blk_cell BK624.out 2).trans rfl, (blk_cell BK624.out 3).trans rfl, (blk_cell BK624.out 4).trans rfl, (blk_cell BK624.out 5).trans rfl, (blk_cell BK624.out 6).trans rfl, (blk_cell BK624.out 7).trans rfl, ((HB.out.cell (World.block_lt_of_cell? w _ hw627_0)).trans hw627_0), ((HB.out.cell (World.block_lt_of_cell? w _ hw627_1)).trans hw627_1), ((HB.out.cell (World.block_lt_of_cell? w _ hw627_2)).trans hw627_2), ((HB.out.cell (World.block_lt_of_cell? w _ hw627_3)).trans hw627_3), ((HB.out.cell (World.block_lt_of_cell? w _ hw627_4)).trans hw627_4), ((HB.out.cell (World.block_lt_of_cell? w _ hw627_5)).trans hw627_5), ((HB.out.cell (World.block_lt_of_cell? w _ hw628_0)).trans hw628_0), ((HB.out.cell (World.block_lt_of_cell? w _ hw628_1)).trans hw628_1), ((HB.out.cell (World.block_lt_of_cell? w _ hw628_2)).trans hw628_2), ((HB.out.cell (World.block_lt_of_cell? w _ hw628_3)).trans hw628_3), ((HB.out.cell (World.block_lt_of_cell? w _ hw628_4)).trans hw628_4), ((HB.out.cell (World.block_lt_of_cell? w _ hw628_5)).trans hw628_5)⟩ (fun hHeld => ?_); refine with_tabW prebendref13_Same.tab11 prebendref13_Same.bits11 (fun HT_ HW_ => ?_)
             generalize wr.drew = w59 at BK623 BK624 HB hx627_0 hx627_1 hx627_2 hx627_3 hx627_4 hx627_5 hx628_0 hx628_1 hx628_2 hx628_3 hx628_4 hx628_5 hHeld ⊢
             refine plan_ [(0, 99), (2, 101), (5, 104), (7, 106)] ?_
             iterate 4 (refine planP_ (v := ?_) (a' := ?_) rfl rfl (any_of HT_.out (by kernel_rfl)) (fun _ _ _ h => h) (Or.inl ⟨by rfl, ?_⟩) ?_ ?_; rotate_left; (intro w'; go_simp; with_reducible rfl); rotate_left; (simp only [Act.put, List.setIfInBounds_toArray, List.set_cons_zero, List.set_cons_succ, i64_w, i32_w]; rfl))
             refine planEnd_ ?_
             refine plan_ [(1, 100)] ?_
             refine planT_ (v := ?_) (a' := ?_) rfl rfl (take_ofW HT_.out HW_.out (by kernel_rfl)) (fun _ _ _ h => h) (Or.inl ⟨by rfl, ?_⟩) hHeld ?_ ?_; rotate_left; (rintro w' ⟨s0, s1, s2, s3, s4, s5, s6, s7, s8, s9, s10, s11, s12, s13, s14, s15, s16, s17, s18, s19, s20, s21, s22, s23, s24, s25, s26, s27⟩; go_simp; with_reducible rfl); rotate_left; (simp only [Act.put, List.setIfInBounds_toArray, List.set_cons_zero, List.set_cons_succ, i64_w, i32_w]; rfl)
             refine planEnd_ ?_
             refine plan_ [(3, 102)] ?_
             refine planP_ (v := ?_) (a' := ?_) rfl rfl (any_of HT_.out (by kernel_rfl)) (fun _ _ _ h => h) (Or.inl ⟨by rfl, ?_⟩) ?_ ?_; rotate_left; (intro w'; go_simp; with_reducible rfl); rotate_left; (simp only [Act.put, List.setIfInBounds_toArray, List.set_cons_zero, List.set_cons_succ, i64_w, i32_w]; rfl)
             refine planEnd_ ?_
             refine plan_ [(4, 103), (6, 105)] ?_
             iterate 2 (refine planT_ (v := ?_) (a' := ?_) rfl rfl (take_ofW HT_.out HW_.out (by kernel_rfl)) (fun _ _ _ h => h) (Or.inl ⟨by rfl, ?_⟩) hHeld ?_ ?_; rotate_left; (rintro w' ⟨s0, s1, s2, s3, s4, s5, s6, s7, s8, s9, s10, s11, s12, s13, s14, s15, s16, s17, s18, s19, s20, s21, s22, s23, s24, s25, s26, s27⟩; go_simp; with_reducible rfl); rotate_left; (simp only [Act.put, List.setIfInBounds_toArray, List.set_cons_zero, List.set_cons_succ, i64_w, i32_w]; rfl))
             refine planEnd_ ?_
             refine plan_ [(8, 107)] ?_
             refine planP_ (v := ?_) (a' := ?_) rfl rfl (any_of HT_.out (by kernel_rfl)) (fun _ _ _ h => h) (Or.inl ⟨by rfl, ?_⟩) ?_ ?_; rotate_left; (intro w'; go_simp; with_reducible rfl); rotate_left; (simp only [Act.put, List.setIfInBounds_toArray, List.set_cons_zero, List.set_cons_succ, i64_w, i32_w]; rfl)
             refine planEnd_ ?_
             refine plan_ [(9, 108)] ?_
             refine planT_ (v := ?_) (a' := ?_) rfl rfl (take_ofW HT_.out HW_.out (by kernel_rfl)) (fun _ _ _ h => h) (Or.inl ⟨by rfl, ?_⟩) hHeld ?_ ?_; rotate_left; (rintro w' ⟨s0, s1, s2, s3, s4, s5, s6, s7, s8, s9, s10, s11, s12, s13, s14, s15, s16, s17, s18, s19, s20, s21, s22, s23, s24, s25, s26, s27⟩; go_simp; with_reducible rfl); rotate_left; (simp only [Act.put, List.setIfInBounds_toArray, List.set_cons_zero, List.set_cons_succ, i64_w, i32_w]; rfl)
             refine planEnd_ ?_
             refine plan_ [(10, 109)] ?_
             refine planP_ (v := ?_) (a' := ?_) rfl rfl (any_of HT_.out (by kernel_rfl)) (fun _ _ _ h => h) (Or.inl ⟨by rfl, ?_⟩) ?_ ?_; rotate_left; (intro w'; go_simp; with_reducible rfl); rotate_left; (simp only [Act.put, List.setIfInBounds_toArray, List.set_cons_zero, List.set_cons_succ, i64_w, i32_w]; rfl)
             refine planEnd_ ?_
             refine done_ (done_of HT_.out (by kernel_rfl)) ?_
             try go_wp2
             go_roundg k3
             case measure => have := HJ2.out; have := HK2.out; have := HK3.out; omega
             case rel => exact ⟨(wrap64 (x6_3 + 1)), ez, H', ⟨by have := HJ2.out; have := HK2.out; have := HK3.out; omega⟩, ⟨mBK BK623.out⟩, ⟨mBK BK624.out⟩, ⟨mBs HB.out⟩⟩
           ·rw [if_neg c52] at H
            exact absurd H (by simp)
          ·rw [if_neg c51] at H
           exact absurd H (by simp)
         ·rw [if_neg c50] at H
          have c50b0 : decide (x6_3 < (l0_4.length : Int)) = false := decide_eq_false c50
          clear c50
          have H' := Aside0.mk H
          clear H
          have hnb60 := NB623_624.out
          have hnc60 := NB624_623.out
          have hcz61_0 : wr.cell? ⟨gb623, 0, none⟩ = some (.int .i64 a0_0) := (blk_cell BK623.out 0).trans rfl
          have hcz61_1 : wr.cell? ⟨gb623, 1, none⟩ = some (.int .i64 a0_1) := (blk_cell BK623.out 1).trans rfl
          have hcz61_2 : wr.cell? ⟨gb623, 2, none⟩ = some (.int .i64 a0_2) := (blk_cell BK623.out 2).trans rfl
          have hcz61_3 : wr.cell? ⟨gb623, 3, none⟩ = some (.slice A0_3 l0_3.length c0_3) := (blk_cell BK623.out 3).trans rfl
          have hcz61_4 : wr.cell? ⟨gb623, 4, none⟩ = some (.slice A0_4 l0_4.length c0_4) := (blk_cell BK623.out 4).trans rfl
          have hcz61_5 : wr.cell? ⟨gb623, 5, none⟩ = some (.slice A0_5 l0_5.length c0_5) := (blk_cell BK623.out 5).trans rfl
          have hcz61_6 : wr.cell? ⟨gb623, 6, none⟩ = some (.slice A0_6 l0_6.length c0_6) := (blk_cell BK623.out 6).trans rfl
          have hcz61_7 : wr.cell? ⟨gb623, 7, none⟩ = some (.slice A0_7 l0_7.length c0_7) := (blk_cell BK623.out 7).trans rfl
          have hfz61_0 := blk_frozen BK623.out 0
          have hfz61_1 := blk_frozen BK623.out 1
          have hfz61_2 := blk_frozen BK623.out 2
          have hfz61_3 := blk_frozen BK623.out 3
          have hfz61_4 := blk_frozen BK623.out 4
          have hfz61_5 := blk_frozen BK623.out 5
          have hfz61_6 := blk_frozen BK623.out 6
          have hfz61_7 := blk_frozen BK623.out 7
          go_wp2
          go_loopg [7] k3 (fun kq v7 w' => ∃ (x7_4 : Int), v7 = .int .i64 x7_4 ∧ Aside0 (prebendref13_Same.l2 kq x7_4 a0_0 a0_1 a0_2 l0_3 l0_4 l0_5 l0_6 l0_7 a1_0 a1_1 a1_2 l1_3 l1_4 l1_5 l1_6 l1_7 = some r) ∧ Aside0 (kq ≤ k3) ∧ Aside0 (w'.heap[gb623]? = some (.cells #[.int .i64 a0_0, .int .i64 a0_1, .int .i64 a0_2, (.slice A0_3 l0_3.length c0_3), (.slice A0_4 l0_4.length c0_4), (.slice A0_5 l0_5.length c0_5), (.slice A0_6 l0_6.length c0_6), (.slice A0_7 l0_7.length c0_7)] 67 (0, 0))) ∧ Aside0 (w'.heap[gb624]? = some (.cells #[.int .i64 a1_0, .int .i64 a1_1, .int .i64 a1_2, (.slice A1_3 l1_3.length c1_3), (.slice A1_4 l1_4.length c1_4), (.slice A1_5 l1_5.length c1_5), (.slice A1_6 l1_6.length c1_6), (.slice A1_7 l1_7.length c1_7)] 67 (0, 0))) ∧ Aside0 (Below w.heap.size w w'))
          case atStart => exact ⟨(0), ez, H', ⟨Nat.le_refl _⟩, ⟨mBK BK623.out⟩, ⟨mBK BK624.out⟩, ⟨mBs HB.out⟩⟩
          case round =>
           clear H'
           clear c50b0 hcz61_0 hcz61_1 hcz61_2 hcz61_3 hcz61_4 hcz61_5 hcz61_6 hcz61_7 hfz61_0 hfz61_1 hfz61_2 hfz61_3 hfz61_4 hfz61_5 hfz61_6 hfz61_7
           obtain ⟨x7_4, rfl, HA, HK4, BK623, BK624, HB⟩ := hrel
           cases gk with
           | zero => exact absurd HA.out (by simp [prebendref13_Same.l2])
           | succ k4 =>
            have H := HA.out
            clear HA
            simp only [prebendref13_Same.l2] at H
            by_cases c62 : x7_4 < (l0_5.length : Int)
            ·rw [if_pos c62] at H
             have c62b0 : decide (x7_4 < (l0_5.length : Int)) = true := decide_eq_true c62
             clear c62
             by_cases c63 : 0 ≤ x7_4
             ·rw [if_pos c63] at H
              have c63b0 : decide (0 ≤ x7_4) = true := decide_eq_true c63
              clear c63
              by_cases c64 : x7_4 < (l1_5.length : Int)
              ·rw [if_pos c64] at H
               have c64b0 : decide (x7_4 < (l1_5.length : Int)) = true := decide_eq_true c64
               clear c64
               by_cases c65 : (!(((rd_T97 l0_5 x7_4).f0) == ((rd_T97 l1_5 x7_4).f0)) || (!(((rd_T97 l0_5 x7_4).f1) == ((rd_T97 l1_5 x7_4).f1)) || (!(((rd_T97 l0_5 x7_4).f2) == ((rd_T97 l1_5 x7_4).f2))))) = true
               ·rw [if_pos c65] at H
                have c65b0 : (!(((rd_T97 l0_5 x7_4).f0) == ((rd_T97 l1_5 x7_4).f0)) || (!(((rd_T97 l0_5 x7_4).f1) == ((rd_T97 l1_5 x7_4).f1)) || (!(((rd_T97 l0_5 x7_4).f2) == ((rd_T97 l1_5 x7_4).f2))))) = true := c65
                clear c65
                obtain rfl := Option.some.inj H
                have hnb66 := NB623_624.out
                have hnc66 := NB624_623.out
                have hcz67_0 : wr.cell? ⟨gb623, 0, none⟩ = some (.int .i64 a0_0) := (blk_cell BK623.out 0).trans rfl
                have hcz67_1 : wr.cell? ⟨gb623, 1, none⟩ = some (.int .i64 a0_1) := (blk_cell BK623.out 1).trans rfl
                have hcz67_2 : wr.cell? ⟨gb623, 2, none⟩ = some (.int .i64 a0_2) := (blk_cell BK623.out 2).trans rfl
                have hcz67_3 : wr.cell? ⟨gb623, 3, none⟩ = some (.slice A0_3 l0_3.length c0_3) := (blk_cell BK623.out 3).trans rfl
                have hcz67_4 : wr.cell? ⟨gb623, 4, none⟩ = some (.slice A0_4 l0_4.length c0_4) := (blk_cell BK623.out 4).trans rfl
                have hcz67_5 : wr.cell? ⟨gb623, 5, none⟩ = some (.slice A0_5 l0_5.length c0_5) := (blk_cell BK623.out 5).trans rfl
                have hcz67_6 : wr.cell? ⟨gb623, 6, none⟩ = some (.slice A0_6 l0_6.length c0_6) := (blk_cell BK623.out 6).trans rfl
                have hcz67_7 : wr.cell? ⟨gb623, 7, none⟩ = some (.slice A0_7 l0_7.length c0_7) := (blk_cell BK623.out 7).trans rfl
                have hfz67_0 := blk_frozen BK623.out 0
                have hfz67_1 := blk_frozen BK623.out 1
                have hfz67_2 := blk_frozen BK623.out 2
                have hfz67_3 := blk_frozen BK623.out 3
                have hfz67_4 := blk_frozen BK623.out 4
                have hfz67_5 := blk_frozen BK623.out 5
                have hfz67_6 := blk_frozen BK623.out 6
                have hfz67_7 := blk_frozen BK623.out 7
                try go_wp2
                have n0_ := Aside0.mk (blk_drew BK623.out)
                have n1_ := Aside0.mk (blk_drew BK624.out)
                have n2_ := Aside0.mk (below_drew1 HB.out)
                clear BK623 BK624 HB
                have BK623 := n0_
                have BK624 := n1_
                have HB := n2_
                clear n0_ n1_ n2_
                have p629 : 0 ≤ (x7_4 : Int) := oda
                have q629 : x7_4 < (l0_5.length : Int) := oda
                obtain ⟨ad629, e629, hx629_0, hx629_1, hx629_2⟩ := at_T97 HR0_5.out x7_4 p629 q629
                have hw629_2 := hx629_2
                have hw629_1 := hx629_1
                have hw629_0 := hx629_0
                cases e629
                replace hx629_0 := (HB.out.cell (World.block_lt_of_cell? w _ hx629_0)).trans hx629_0
                replace hx629_1 := (HB.out.cell (World.block_lt_of_cell? w _ hx629_1)).trans hx629_1
                replace hx629_2 := (HB.out.cell (World.block_lt_of_cell? w _ hx629_2)).trans hx629_2
                replace p629 := eq_true p629
                replace q629 := eq_true q629
                have p630 : 0 ≤ (x7_4 : Int) := oda
                have q630 : x7_4 < (l1_5.length : Int) := oda
                obtain ⟨ad630, e630, hx630_0, hx630_1, hx630_2⟩ := at_T97 HR1_5.out x7_4 p630 q630
                have hw630_2 := hx630_2
                have hw630_1 := hx630_1
                have hw630_0 := hx630_0
                cases e630
                replace hx630_0 := (HB.out.cell (World.block_lt_of_cell? w _ hx630_0)).trans hx630_0
                replace hx630_1 := (HB.out.cell (World.block_lt_of_cell? w _ hx630_1)).trans hx630_1
                replace hx630_2 := (HB.out.cell (World.block_lt_of_cell? w _ hx630_2)).trans hx630_2
                replace p630 := eq_true p630
                replace q630 := eq_true q630
                refine start_ (n := 11) (S := fun w' => w'.cell? ⟨gb623, 0, none⟩ = some (.int .i64 a0_0) ∧ w'.cell? ⟨gb623, 1, none⟩ = some (.int .i64 a0_1) ∧ w'.cell? ⟨gb623, 2, none⟩ = some (.int .i64 a0_2) ∧ w'.cell? ⟨gb623, 3, none⟩ = some (.slice A0_3 l0_3.length c0_3) ∧ w'.cell? ⟨gb623, 4, none⟩ = some (.slice A0_4 l0_4.length c0_4) ∧ w'.cell? ⟨gb623, 5, none⟩ = some (.slice (some ad629) l0_5.length c0_5) ∧ w'.cell? ⟨gb623, 6, none⟩ = some (.slice A0_6 l0_6.length c0_6) ∧ w'.cell? ⟨gb623, 7, none⟩ = some (.slice A0_7 l0_7.length c0_7) ∧ w'.cell? ⟨gb624, 0, none⟩ = some (.int .i64 a1_0) ∧ w'.cell? ⟨gb624, 1, none⟩ = some (.int .i64 a1_1) ∧ w'.cell? ⟨gb624, 2, none⟩ = some (.int .i64 a1_2) ∧ w'.cell? ⟨gb624, 3, none⟩ = some (.slice A1_3 l1_3.length c1_3) ∧ w'.cell? ⟨gb624, 4, none⟩ = some (.slice A1_4 l1_4.length c1_4) ∧ w'.cell? ⟨gb624, 5, none⟩ = some (.slice (some ad630) l1_5.length c1_5) ∧ w'.cell? ⟨gb624, 6, none⟩ = some (.slice A1_6 l1_6.length c1_6) ∧ w'.cell? ⟨gb624, 7, none⟩ = some (.slice A1_7 l1_7.length c1_7) ∧ w'.cell? (ad629.add ((x7_4).toNat * 3)) = some (.int .i64 ((rd_T97 l0_5 x7_4).f0)) ∧ w'.cell? ⟨(ad629.add ((x7_4).toNat * 3)).block, (ad629.add ((x7_4).toNat * 3)).off + 1, none⟩ = some (.int .i64 ((rd_T97 l0_5 x7_4).f1)) ∧ w'.cell? ⟨(ad629.add ((x7_4).toNat * 3)).block, (ad629.add ((x7_4).toNat * 3)).off + 2, none⟩ = some (.int .i64 ((rd_T97 l0_5 x7_4).f2)) ∧ w'.cell? (ad630.add ((x7_4).toNat * 3)) = some (.int .i64 ((rd_T97 l1_5 x7_4).f0)) ∧ w'.cell? ⟨(ad630.add ((x7_4).toNat * 3)).block, (ad630.add ((x7_4).toNat * 3)).off + 1, none⟩ = some (.int .i64 ((rd_T97 l1_5 x7_4).f1)) ∧ w'.cell? ⟨(ad630.add ((x7_4).toNat * 3)).block, (ad630.add ((x7_4).toNat * 3)).off + 2, none⟩ = some (.int .i64 ((rd_T97 l1_5 x7_4).f2))) (ds := []) #[false, false, false, false, false, false, false, false, false, false, false] (by kernel_rfl) rfl rfl ⟨(blk_cell BK623.out 0).trans rfl, (blk_cell BK623.out 1).trans rfl, (blk_cell BK623.out 2).trans rfl, (blk_cell BK623.out 3).trans rfl, (blk_cell BK623.out 4).trans rfl, (blk_cell BK623.out 5).trans rfl, (blk_cell BK623.out 6).trans rfl, (blk_cell BK623.out 7).trans rfl, (blk_cell BK624.out 0).trans rfl, (blk_cell BK624.out 1).trans rfl, (blk_cell BK624.out 2).trans rfl, (blk_cell BK624.out 3).trans rfl, (blk_cell BK624.out 4).trans rfl, (blk_cell BK624.out 5).trans rfl, (blk_cell BK624.out 6).trans rfl, (blk_cell BK624.out 7).trans rfl, ((HB.out.cell (World.block_lt_of_cell? w _ hw629_0)).trans hw629_0), ((HB.out.cell (World.block_lt_of_cell? w _ hw629_1)).trans hw629_1), ((HB.out.cell (World.block_lt_of_cell? w _ hw629_2)).trans hw629_2), ((HB.out.cell (World.block_lt_of_cell? w _ hw630_0)).trans hw630_0), ((HB.out.cell (World.block_lt_of_cell? w _ hw630_1)).trans hw630_1), ((HB.out.cell (World.block_lt_of_cell? w _ hw630_2)).trans hw630_2)⟩ (fun hHeld => ?_); refine with_tabW prebendref13_Same.tab16 prebendref13_Same.bits16 (fun HT_ HW_ => ?_)
                generalize wr.drew = w68 at BK623 BK624 HB hx629_0 hx629_1 hx629_2 hx630_0 hx630_1 hx630_2 hHeld ⊢
                refine plan_ [(0, 117), (2, 119), (5, 122), (7, 124)] ?_
                iterate 4 (refine planP_ (v := ?_) (a' := ?_) rfl rfl (any_of HT_.out (by kernel_rfl)) (fun _ _ _ h => h) (Or.inl ⟨by rfl, ?_⟩) ?_ ?_; rotate_left; (intro w'; go_simp; with_reducible rfl); rotate_left; (simp only [Act.put, List.setIfInBounds_toArray, List.set_cons_zero, List.set_cons_succ, i64_w, i32_w]; rfl))
                refine planEnd_ ?_
                refine plan_ [(1, 118)] ?_
                refine planT_ (v := ?_) (a' := ?_) rfl rfl (take_ofW HT_.out HW_.out (by kernel_rfl)) (fun _ _ _ h => h) (Or.inl ⟨by rfl, ?_⟩) hHeld ?_ ?_; rotate_left; (rintro w' ⟨s0, s1, s2, s3, s4, s5, s6, s7, s8, s9, s10, s11, s12, s13, s14, s15, s16, s17, s18, s19, s20, s21⟩; go_simp; with_reducible rfl); rotate_left; (simp only [Act.put, List.setIfInBounds_toArray, List.set_cons_zero, List.set_cons_succ, i64_w, i32_w]; rfl)
                refine planEnd_ ?_
                refine plan_ [(3, 120)] ?_
                refine planP_ (v := ?_) (a' := ?_) rfl rfl (any_of HT_.out (by kernel_rfl)) (fun _ _ _ h => h) (Or.inl ⟨by rfl, ?_⟩) ?_ ?_; rotate_left; (intro w'; go_simp; with_reducible rfl); rotate_left; (simp only [Act.put, List.setIfInBounds_toArray, List.set_cons_zero, List.set_cons_succ, i64_w, i32_w]; rfl)
                refine planEnd_ ?_
                refine plan_ [(4, 121), (6, 123)] ?_
                iterate 2 (refine planT_ (v := ?_) (a' := ?_) rfl rfl (take_ofW HT_.out HW_.out (by kernel_rfl)) (fun _ _ _ h => h) (Or.inl ⟨by rfl, ?_⟩) hHeld ?_ ?_; rotate_left; (rintro w' ⟨s0, s1, s2, s3, s4, s5, s6, s7, s8, s9, s10, s11, s12, s13, s14, s15, s16, s17, s18, s19, s20, s21⟩; go_simp; with_reducible rfl); rotate_left; (simp only [Act.put, List.setIfInBounds_toArray, List.set_cons_zero, List.set_cons_succ, i64_w, i32_w]; rfl))
                refine planEnd_ ?_
                refine plan_ [(8, 125)] ?_
                refine planP_ (v := ?_) (a' := ?_) rfl rfl (any_of HT_.out (by kernel_rfl)) (fun _ _ _ h => h) (Or.inl ⟨by rfl, ?_⟩) ?_ ?_; rotate_left; (intro w'; go_simp; with_reducible rfl); rotate_left; (simp only [Act.put, List.setIfInBounds_toArray, List.set_cons_zero, List.set_cons_succ, i64_w, i32_w]; rfl)
                refine planEnd_ ?_
                refine plan_ [(9, 126)] ?_
                refine planT_ (v := ?_) (a' := ?_) rfl rfl (take_ofW HT_.out HW_.out (by kernel_rfl)) (fun _ _ _ h => h) (Or.inl ⟨by rfl, ?_⟩) hHeld ?_ ?_; rotate_left; (rintro w' ⟨s0, s1, s2, s3, s4, s5, s6, s7, s8, s9, s10, s11, s12, s13, s14, s15, s16, s17, s18, s19, s20, s21⟩; go_simp; with_reducible rfl); rotate_left; (simp only [Act.put, List.setIfInBounds_toArray, List.set_cons_zero, List.set_cons_succ, i64_w, i32_w]; rfl)
                refine planEnd_ ?_
                refine plan_ [(10, 127)] ?_
                refine planP_ (v := ?_) (a' := ?_) rfl rfl (any_of HT_.out (by kernel_rfl)) (fun _ _ _ h => h) (Or.inl ⟨by rfl, ?_⟩) ?_ ?_; rotate_left; (intro w'; go_simp; with_reducible rfl); rotate_left; (simp only [Act.put, List.setIfInBounds_toArray, List.set_cons_zero, List.set_cons_succ, i64_w, i32_w]; rfl)
                refine planEnd_ ?_
                refine done_ (done_of HT_.out (by kernel_rfl)) ?_
                try go_wp2
                go_ret
                exact ⟨by first | rfl | (simp [errW_none, errW_some] <;> rfl) | (simp [*, errW_none, errW_some] <;> rfl), by repeat (first | (with_reducible first | exact HB.out | apply below_alloc | apply pw_below_drewN | apply below_drew1 | refine below_set ?_ GE623.out | refine below_set ?_ GE624.out) | exact HB.out)⟩
               ·rw [if_neg c65] at H
                have c65b0 : (!(((rd_T97 l0_5 x7_4).f0) == ((rd_T97 l1_5 x7_4).f0)) || (!(((rd_T97 l0_5 x7_4).f1) == ((rd_T97 l1_5 x7_4).f1)) || (!(((rd_T97 l0_5 x7_4).f2) == ((rd_T97 l1_5 x7_4).f2))))) = false := by simpa using c65
                clear c65
                have H' := Aside0.mk H
                clear H
                have hnb69 := NB623_624.out
                have hnc69 := NB624_623.out
                have hcz70_0 : wr.cell? ⟨gb623, 0, none⟩ = some (.int .i64 a0_0) := (blk_cell BK623.out 0).trans rfl
                have hcz70_1 : wr.cell? ⟨gb623, 1, none⟩ = some (.int .i64 a0_1) := (blk_cell BK623.out 1).trans rfl
                have hcz70_2 : wr.cell? ⟨gb623, 2, none⟩ = some (.int .i64 a0_2) := (blk_cell BK623.out 2).trans rfl
                have hcz70_3 : wr.cell? ⟨gb623, 3, none⟩ = some (.slice A0_3 l0_3.length c0_3) := (blk_cell BK623.out 3).trans rfl
                have hcz70_4 : wr.cell? ⟨gb623, 4, none⟩ = some (.slice A0_4 l0_4.length c0_4) := (blk_cell BK623.out 4).trans rfl
                have hcz70_5 : wr.cell? ⟨gb623, 5, none⟩ = some (.slice A0_5 l0_5.length c0_5) := (blk_cell BK623.out 5).trans rfl
                have hcz70_6 : wr.cell? ⟨gb623, 6, none⟩ = some (.slice A0_6 l0_6.length c0_6) := (blk_cell BK623.out 6).trans rfl
                have hcz70_7 : wr.cell? ⟨gb623, 7, none⟩ = some (.slice A0_7 l0_7.length c0_7) := (blk_cell BK623.out 7).trans rfl
                have hfz70_0 := blk_frozen BK623.out 0
                have hfz70_1 := blk_frozen BK623.out 1
                have hfz70_2 := blk_frozen BK623.out 2
                have hfz70_3 := blk_frozen BK623.out 3
                have hfz70_4 := blk_frozen BK623.out 4
                have hfz70_5 := blk_frozen BK623.out 5
                have hfz70_6 := blk_frozen BK623.out 6
                have hfz70_7 := blk_frozen BK623.out 7
                try go_wp2
                have n0_ := Aside0.mk (blk_drew BK623.out)
                have n1_ := Aside0.mk (blk_drew BK624.out)
                have n2_ := Aside0.mk (below_drew1 HB.out)
                clear BK623 BK624 HB
                have BK623 := n0_
                have BK624 := n1_
                have HB := n2_
                clear n0_ n1_ n2_
                have p629 : 0 ≤ (x7_4 : Int) := oda
                have q629 : x7_4 < (l0_5.length : Int) := oda
                obtain ⟨ad629, e629, hx629_0, hx629_1, hx629_2⟩ := at_T97 HR0_5.out x7_4 p629 q629
                have hw629_2 := hx629_2
                have hw629_1 := hx629_1
                have hw629_0 := hx629_0
                cases e629
                replace hx629_0 := (HB.out.cell (World.block_lt_of_cell? w _ hx629_0)).trans hx629_0
                replace hx629_1 := (HB.out.cell (World.block_lt_of_cell? w _ hx629_1)).trans hx629_1
                replace hx629_2 := (HB.out.cell (World.block_lt_of_cell? w _ hx629_2)).trans hx629_2
                replace p629 := eq_true p629
                replace q629 := eq_true q629
                have p630 : 0 ≤ (x7_4 : Int) := oda
                have q630 : x7_4 < (l1_5.length : Int) := oda
                obtain ⟨ad630, e630, hx630_0, hx630_1, hx630_2⟩ := at_T97 HR1_5.out x7_4 p630 q630
                have hw630_2 := hx630_2
                have hw630_1 := hx630_1
                have hw630_0 := hx630_0
                cases e630
                replace hx630_0 := (HB.out.cell (World.block_lt_of_cell? w _ hx630_0)).trans hx630_0
                replace hx630_1 := (HB.out.cell (World.block_lt_of_cell? w _ hx630_1)).trans hx630_1
                replace hx630_2 := (HB.out.cell (World.block_lt_of_cell? w _ hx630_2)).trans hx630_2
                replace p630 := eq_true p630
                replace q630 := eq_true q630
                refine start_ (n := 11) (S := fun w' => w'.cell? ⟨gb623, 0, none⟩ = some (.int .i64 a0_0) ∧ w'.cell? ⟨gb623, 1, none⟩ = some (.int .i64 a0_1) ∧ w'.cell? ⟨gb623, 2, none⟩ = some (.int .i64 a0_2) ∧ w'.cell? ⟨gb623, 3, none⟩ = some (.slice A0_3 l0_3.length c0_3) ∧ w'.cell? ⟨gb623, 4, none⟩ = some (.slice A0_4 l0_4.length c0_4) ∧ w'.cell? ⟨gb623, 5, none⟩ = some (.slice (some ad629) l0_5.length c0_5) ∧ w'.cell? ⟨gb623, 6, none⟩ = some (.slice A0_6 l0_6.length c0_6) ∧ w'.cell? ⟨gb623, 7, none⟩ = some (.slice A0_7 l0_7.length c0_7) ∧ w'.cell? ⟨gb624, 0, none⟩ = some (.int .i64 a1_0) ∧ w'.cell? ⟨gb624, 1, none⟩ = some (.int .i64 a1_1) ∧ w'.cell? ⟨gb624, 2, none⟩ = some (.int .i64 a1_2) ∧ w'.cell? ⟨gb624, 3, none⟩ = some (.slice A1_3 l1_3.length c1_3) ∧ w'.cell? ⟨gb624, 4, none⟩ = some (.slice A1_4 l1_4.length c1_4) ∧ w'.cell? ⟨gb624, 5, none⟩ = some (.slice (some ad630) l1_5.length c1_5) ∧ w'.cell? ⟨gb624, 6, none⟩ = some (.slice A1_6 l1_6.length c1_6) ∧ w'.cell? ⟨gb624, 7, none⟩ = some (.slice A1_7 l1_7.length c1_7) ∧ w'.cell? (ad629.add ((x7_4).toNat * 3)) = some (.int .i64 ((rd_T97 l0_5 x7_4).f0)) ∧ w'.cell? ⟨(ad629.add ((x7_4).toNat * 3)).block, (ad629.add ((x7_4).toNat * 3)).off + 1, none⟩ = some (.int .i64 ((rd_T97 l0_5 x7_4).f1)) ∧ w'.cell? ⟨(ad629.add ((x7_4).toNat * 3)).block, (ad629.add ((x7_4).toNat * 3)).off + 2, none⟩ = some (.int .i64 ((rd_T97 l0_5 x7_4).f2)) ∧ w'.cell? (ad630.add ((x7_4).toNat * 3)) = some (.int .i64 ((rd_T97 l1_5 x7_4).f0)) ∧ w'.cell? ⟨(ad630.add ((x7_4).toNat * 3)).block, (ad630.add ((x7_4).toNat * 3)).off + 1, none⟩ = some (.int .i64 ((rd_T97 l1_5 x7_4).f1)) ∧ w'.cell? ⟨(ad630.add ((x7_4).toNat * 3)).block, (ad630.add ((x7_4).toNat * 3)).off + 2, none⟩ = some (.int .i64 ((rd_T97 l1_5 x7_4).f2))) (ds := []) #[false, false, false, false, false, false, false, false, false, false, false] (by kernel_rfl) rfl rfl ⟨(blk_cell BK623.out 0).trans rfl, (blk_cell BK623.out 1).trans rfl, (blk_cell BK623.out 2).trans rfl, (blk_cell BK623.out 3).trans rfl, (blk_cell BK623.out 4).trans rfl, (blk_cell BK623.out 5).trans rfl, (blk_cell BK623.out 6).trans rfl, (blk_cell BK623.out 7).trans rfl, (blk_cell BK624.out 0).trans rfl, (blk_cell BK624.out 1).trans rfl, (blk_cell BK624.out 2).trans rfl, (blk_cell BK624.out 3).trans rfl, (blk_cell BK624.out 4).trans rfl, (blk_cell BK624.out 5).trans rfl, (blk_cell BK624.out 6).trans rfl, (blk_cell BK624.out 7).trans rfl, ((HB.out.cell (World.block_lt_of_cell? w _ hw629_0)).trans hw629_0), ((HB.out.cell (World.block_lt_of_cell? w _ hw629_1)).trans hw629_1), ((HB.out.cell (World.block_lt_of_cell? w _ hw629_2)).trans hw629_2), ((HB.out.cell (World.block_lt_of_cell? w _ hw630_0)).trans hw630_0), ((HB.out.cell (World.block_lt_of_cell? w _ hw630_1)).trans hw630_1), ((HB.out.cell (World.block_lt_of_cell? w _ hw630_2)).trans hw630_2)⟩ (fun hHeld => ?_); refine with_tabW prebendref13_Same.tab16 prebendref13_Same.bits16 (fun HT_ HW_ => ?_)
                generalize wr.drew = w71 at BK623 BK624 HB hx629_0 hx629_1 hx629_2 hx630_0 hx630_1 hx630_2 hHeld ⊢
                refine plan_ [(0, 117), (2, 119), (5, 122), (7, 124)] ?_
                iterate 4 (refine planP_ (v := ?_) (a' := ?_) rfl rfl (any_of HT_.out (by kernel_rfl)) (fun _ _ _ h => h) (Or.inl ⟨by rfl, ?_⟩) ?_ ?_; rotate_left; (intro w'; go_simp; with_reducible rfl); rotate_left; (simp only [Act.put, List.setIfInBounds_toArray, List.set_cons_zero, List.set_cons_succ, i64_w, i32_w]; rfl))
                refine planEnd_ ?_
                refine plan_ [(1, 118)] ?_
                refine planT_ (v := ?_) (a' := ?_) rfl rfl (take_ofW HT_.out HW_.out (by kernel_rfl)) (fun _ _ _ h => h) (Or.inl ⟨by rfl, ?_⟩) hHeld ?_ ?_; rotate_left; (rintro w' ⟨s0, s1, s2, s3, s4, s5, s6, s7, s8, s9, s10, s11, s12, s13, s14, s15, s16, s17, s18, s19, s20, s21⟩; go_simp; with_reducible rfl); rotate_left; (simp only [Act.put, List.setIfInBounds_toArray, List.set_cons_zero, List.set_cons_succ, i64_w, i32_w]; rfl)
                refine planEnd_ ?_
                refine plan_ [(3, 120)] ?_
                refine planP_ (v := ?_) (a' := ?_) rfl rfl (any_of HT_.out (by kernel_rfl)) (fun _ _ _ h => h) (Or.inl ⟨by rfl, ?_⟩) ?_ ?_; rotate_left; (intro w'; go_simp; with_reducible rfl); rotate_left; (simp only [Act.put, List.setIfInBounds_toArray, List.set_cons_zero, List.set_cons_succ, i64_w, i32_w]; rfl)
                refine planEnd_ ?_
                refine plan_ [(4, 121), (6, 123)] ?_
                iterate 2 (refine planT_ (v := ?_) (a' := ?_) rfl rfl (take_ofW HT_.out HW_.out (by kernel_rfl)) (fun _ _ _ h => h) (Or.inl ⟨by rfl, ?_⟩) hHeld ?_ ?_; rotate_left; (rintro w' ⟨s0, s1, s2, s3, s4, s5, s6, s7, s8, s9, s10, s11, s12, s13, s14, s15, s16, s17, s18, s19, s20, s21⟩; go_simp; with_reducible rfl); rotate_left; (simp only [Act.put, List.setIfInBounds_toArray, List.set_cons_zero, List.set_cons_succ, i64_w, i32_w]; rfl))
                refine planEnd_ ?_
                refine plan_ [(8, 125)] ?_
                refine planP_ (v := ?_) (a' := ?_) rfl rfl (any_of HT_.out (by kernel_rfl)) (fun _ _ _ h => h) (Or.inl ⟨by rfl, ?_⟩) ?_ ?_; rotate_left; (intro w'; go_simp; with_reducible rfl); rotate_left; (simp only [Act.put, List.setIfInBounds_toArray, List.set_cons_zero, List.set_cons_succ, i64_w, i32_w]; rfl)
                refine planEnd_ ?_
                refine plan_ [(9, 126)] ?_
                refine planT_ (v := ?_) (a' := ?_) rfl rfl (take_ofW HT_.out HW_.out (by kernel_rfl)) (fun _ _ _ h => h) (Or.inl ⟨by rfl, ?_⟩) hHeld ?_ ?_; rotate_left; (rintro w' ⟨s0, s1, s2, s3, s4, s5, s6, s7, s8, s9, s10, s11, s12, s13, s14, s15, s16, s17, s18, s19, s20, s21⟩; go_simp; with_reducible rfl); rotate_left; (simp only [Act.put, List.setIfInBounds_toArray, List.set_cons_zero, List.set_cons_succ, i64_w, i32_w]; rfl)
                refine planEnd_ ?_
                refine plan_ [(10, 127)] ?_
                refine planP_ (v := ?_) (a' := ?_) rfl rfl (any_of HT_.out (by kernel_rfl)) (fun _ _ _ h => h) (Or.inl ⟨by rfl, ?_⟩) ?_ ?_; rotate_left; (intro w'; go_simp; with_reducible rfl); rotate_left; (simp only [Act.put, List.setIfInBounds_toArray, List.set_cons_zero, List.set_cons_succ, i64_w, i32_w]; rfl)
                refine planEnd_ ?_
                refine done_ (done_of HT_.out (by kernel_rfl)) ?_
                try go_wp2
                go_roundg k4
                case measure => have := HJ2.out; have := HK2.out; have := HK3.out; have := HK4.out; omega
                case rel => exact ⟨(wrap64 (x7_4 + 1)), ez, H', ⟨by have := HJ2.out; have := HK2.out; have := HK3.out; have := HK4.out; omega⟩, ⟨mBK BK623.out⟩, ⟨mBK BK624.out⟩, ⟨mBs HB.out⟩⟩
              ·rw [if_neg c64] at H
               exact absurd H (by simp)
             ·rw [if_neg c63] at H
              exact absurd H (by simp)
            ·rw [if_neg c62] at H
             have c62b0 : decide (x7_4 < (l0_5.length : Int)) = false := decide_eq_false c62
             clear c62
             have H' := Aside0.mk H
             clear H
             have hnb72 := NB623_624.out
             have hnc72 := NB624_623.out
             have hcz73_0 : wr.cell? ⟨gb623, 0, none⟩ = some (.int .i64 a0_0) := (blk_cell BK623.out 0).trans rfl
             have hcz73_1 : wr.cell? ⟨gb623, 1, none⟩ = some (.int .i64 a0_1) := (blk_cell BK623.out 1).trans rfl
             have hcz73_2 : wr.cell? ⟨gb623, 2, none⟩ = some (.int .i64 a0_2) := (blk_cell BK623.out 2).trans rfl
             have hcz73_3 : wr.cell? ⟨gb623, 3, none⟩ = some (.slice A0_3 l0_3.length c0_3) := (blk_cell BK623.out 3).trans rfl
             have hcz73_4 : wr.cell? ⟨gb623, 4, none⟩ = some (.slice A0_4 l0_4.length c0_4) := (blk_cell BK623.out 4).trans rfl
             have hcz73_5 : wr.cell? ⟨gb623, 5, none⟩ = some (.slice A0_5 l0_5.length c0_5) := (blk_cell BK623.out 5).trans rfl
             have hcz73_6 : wr.cell? ⟨gb623, 6, none⟩ = some (.slice A0_6 l0_6.length c0_6) := (blk_cell BK623.out 6).trans rfl
             have hcz73_7 : wr.cell? ⟨gb623, 7, none⟩ = some (.slice A0_7 l0_7.length c0_7) := (blk_cell BK623.out 7).trans rfl
             have hfz73_0 := blk_frozen BK623.out 0
             have hfz73_1 := blk_frozen BK623.out 1
             have hfz73_2 := blk_frozen BK623.out 2
             have hfz73_3 := blk_frozen BK623.out 3
             have hfz73_4 := blk_frozen BK623.out 4
             have hfz73_5 := blk_frozen BK623.out 5
             have hfz73_6 := blk_frozen BK623.out 6
             have hfz73_7 := blk_frozen BK623.out 7
             go_wp2
             go_loopg [8] k4 (fun kq v8 w' => ∃ (x8_5 : Int), v8 = .int .i64 x8_5 ∧ Aside0 (prebendref13_Same.l3 kq x8_5 a0_0 a0_1 a0_2 l0_3 l0_4 l0_5 l0_6 l0_7 a1_0 a1_1 a1_2 l1_3 l1_4 l1_5 l1_6 l1_7 = some r) ∧ Aside0 (kq ≤ k4) ∧ Aside0 (w'.heap[gb623]? = some (.cells #[.int .i64 a0_0, .int .i64 a0_1, .int .i64 a0_2, (.slice A0_3 l0_3.length c0_3), (.slice A0_4 l0_4.length c0_4), (.slice A0_5 l0_5.length c0_5), (.slice A0_6 l0_6.length c0_6), (.slice A0_7 l0_7.length c0_7)] 67 (0, 0))) ∧ Aside0 (w'.heap[gb624]? = some (.cells #[.int .i64 a1_0, .int .i64 a1_1, .int .i64 a1_2, (.slice A1_3 l1_3.length c1_3), (.slice A1_4 l1_4.length c1_4), (.slice A1_5 l1_5.length c1_5), (.slice A1_6 l1_6.length c1_6), (.slice A1_7 l1_7.length c1_7)] 67 (0, 0))) ∧ Aside0 (Below w.heap.size w w'))
             case atStart => exact ⟨(0), ez, H', ⟨Nat.le_refl _⟩, ⟨mBK BK623.out⟩, ⟨mBK BK624.out⟩, ⟨mBs HB.out⟩⟩
             case round =>
              clear H'
              clear c62b0 hcz73_0 hcz73_1 hcz73_2 hcz73_3 hcz73_4 hcz73_5 hcz73_6 hcz73_7 hfz73_0 hfz73_1 hfz73_2 hfz73_3 hfz73_4 hfz73_5 hfz73_6 hfz73_7
              obtain ⟨x8_5, rfl, HA, HK5, BK623, BK624, HB⟩ := hrel
              cases gk with
              | zero => exact absurd HA.out (by simp [prebendref13_Same.l3])
              | succ k5 =>
               have H := HA.out
               clear HA
               simp only [prebendref13_Same.l3] at H
               by_cases c74 : x8_5 < (l0_6.length : Int)
               ·rw [if_pos c74] at H
                have c74b0 : decide (x8_5 < (l0_6.length : Int)) = true := decide_eq_true c74
                clear c74
                by_cases c75 : 0 ≤ x8_5
                ·rw [if_pos c75] at H
                 have c75b0 : decide (0 ≤ x8_5) = true := decide_eq_true c75
                 clear c75
                 by_cases c76 : x8_5 < (l1_6.length : Int)
                 ·rw [if_pos c76] at H
                  have c76b0 : decide (x8_5 < (l1_6.length : Int)) = true := decide_eq_true c76
                  clear c76
                  replace H := Option.bind_eq_some_iff.mp H
                  obtain ⟨t633, A770, H⟩ := H
                  replace H : (if t633 = true then (prebendref13_Same.l3 k5 (wrap64 (x8_5 + 1)) a0_0 a0_1 a0_2 l0_3 l0_4 l0_5 l0_6 l0_7 a1_0 a1_1 a1_2 l1_3 l1_4 l1_5 l1_6 l1_7) else (some false)) = some r := H
                  have A77 := Aside0.mk A770
                  clear A770
                  by_cases c78 : t633 = true
                  ·subst c78
                   have H1 : (prebendref13_Same.l3 k5 (wrap64 (x8_5 + 1)) a0_0 a0_1 a0_2 l0_3 l0_4 l0_5 l0_6 l0_7 a1_0 a1_1 a1_2 l1_3 l1_4 l1_5 l1_6 l1_7) = some r := by rw [if_pos rfl] at H; exact H
                   clear H
                   have H := H1
                   clear H1
                   have H' := Aside0.mk H
                   clear H
                   have hnb79 := NB623_624.out
                   have hnc79 := NB624_623.out
                   have hcz80_0 : wr.cell? ⟨gb623, 0, none⟩ = some (.int .i64 a0_0) := (blk_cell BK623.out 0).trans rfl
                   have hcz80_1 : wr.cell? ⟨gb623, 1, none⟩ = some (.int .i64 a0_1) := (blk_cell BK623.out 1).trans rfl
                   have hcz80_2 : wr.cell? ⟨gb623, 2, none⟩ = some (.int .i64 a0_2) := (blk_cell BK623.out 2).trans rfl
                   have hcz80_3 : wr.cell? ⟨gb623, 3, none⟩ = some (.slice A0_3 l0_3.length c0_3) := (blk_cell BK623.out 3).trans rfl
                   have hcz80_4 : wr.cell? ⟨gb623, 4, none⟩ = some (.slice A0_4 l0_4.length c0_4) := (blk_cell BK623.out 4).trans rfl
                   have hcz80_5 : wr.cell? ⟨gb623, 5, none⟩ = some (.slice A0_5 l0_5.length c0_5) := (blk_cell BK623.out 5).trans rfl
                   have hcz80_6 : wr.cell? ⟨gb623, 6, none⟩ = some (.slice A0_6 l0_6.length c0_6) := (blk_cell BK623.out 6).trans rfl
                   have hcz80_7 : wr.cell? ⟨gb623, 7, none⟩ = some (.slice A0_7 l0_7.length c0_7) := (blk_cell BK623.out 7).trans rfl
                   have hfz80_0 := blk_frozen BK623.out 0
                   have hfz80_1 := blk_frozen BK623.out 1
                   have hfz80_2 := blk_frozen BK623.out 2
                   have hfz80_3 := blk_frozen BK623.out 3
                   have hfz80_4 := blk_frozen BK623.out 4
                   have hfz80_5 := blk_frozen BK623.out 5
                   have hfz80_6 := blk_frozen BK623.out 6
                   have hfz80_7 := blk_frozen BK623.out 7
                   try go_wp2
                   have n0_ := Aside0.mk (blk_drew BK623.out)
                   have n1_ := Aside0.mk (blk_drew BK624.out)
                   have n2_ := Aside0.mk (below_drew1 HB.out)
                   clear BK623 BK624 HB
                   have BK623 := n0_
                   have BK624 := n1_
                   have HB := n2_
                   clear n0_ n1_ n2_
                   have p631 : 0 ≤ (x8_5 : Int) := oda
                   have q631 : x8_5 < (l0_6.length : Int) := oda
                   obtain ⟨ad631, A631_11, c631_11, e631, hx631_0, hx631_1, hx631_2, hx631_3, hx631_4, hx631_5, hx631_6, hx631_7, hx631_8, hx631_9, hx631_10, hx631_11, hl631_11, hi631_11⟩ := at_T100 HR0_6.out x8_5 p631 q631
                   have hw631_11 := hx631_11
                   have hw631_10 := hx631_10
                   have hw631_9 := hx631_9
                   have hw631_8 := hx631_8
                   have hw631_7 := hx631_7
                   have hw631_6 := hx631_6
                   have hw631_5 := hx631_5
                   have hw631_4 := hx631_4
                   have hw631_3 := hx631_3
                   have hw631_2 := hx631_2
                   have hw631_1 := hx631_1
                   have hw631_0 := hx631_0
                   cases e631
                   replace hx631_0 := (HB.out.cell (World.block_lt_of_cell? w _ hx631_0)).trans hx631_0
                   replace hx631_1 := (HB.out.cell (World.block_lt_of_cell? w _ hx631_1)).trans hx631_1
                   replace hx631_2 := (HB.out.cell (World.block_lt_of_cell? w _ hx631_2)).trans hx631_2
                   replace hx631_3 := (HB.out.cell (World.block_lt_of_cell? w _ hx631_3)).trans hx631_3
                   replace hx631_4 := (HB.out.cell (World.block_lt_of_cell? w _ hx631_4)).trans hx631_4
                   replace hx631_5 := (HB.out.cell (World.block_lt_of_cell? w _ hx631_5)).trans hx631_5
                   replace hx631_6 := (HB.out.cell (World.block_lt_of_cell? w _ hx631_6)).trans hx631_6
                   replace hx631_7 := (HB.out.cell (World.block_lt_of_cell? w _ hx631_7)).trans hx631_7
                   replace hx631_8 := (HB.out.cell (World.block_lt_of_cell? w _ hx631_8)).trans hx631_8
                   replace hx631_9 := (HB.out.cell (World.block_lt_of_cell? w _ hx631_9)).trans hx631_9
                   replace hx631_10 := (HB.out.cell (World.block_lt_of_cell? w _ hx631_10)).trans hx631_10
                   replace hx631_11 := (HB.out.cell (World.block_lt_of_cell? w _ hx631_11)).trans hx631_11
                   have HR631_11 := Aside0.mk hi631_11
                   have HC631_11 := Aside0.mk hl631_11
                   clear hi631_11 hl631_11
                   replace p631 := eq_true p631
                   replace q631 := eq_true q631
                   have p632 : 0 ≤ (x8_5 : Int) := oda
                   have q632 : x8_5 < (l1_6.length : Int) := oda
                   obtain ⟨ad632, A632_11, c632_11, e632, hx632_0, hx632_1, hx632_2, hx632_3, hx632_4, hx632_5, hx632_6, hx632_7, hx632_8, hx632_9, hx632_10, hx632_11, hl632_11, hi632_11⟩ := at_T100 HR1_6.out x8_5 p632 q632
                   have hw632_11 := hx632_11
                   have hw632_10 := hx632_10
                   have hw632_9 := hx632_9
                   have hw632_8 := hx632_8
                   have hw632_7 := hx632_7
                   have hw632_6 := hx632_6
                   have hw632_5 := hx632_5
                   have hw632_4 := hx632_4
                   have hw632_3 := hx632_3
                   have hw632_2 := hx632_2
                   have hw632_1 := hx632_1
                   have hw632_0 := hx632_0
                   cases e632
                   replace hx632_0 := (HB.out.cell (World.block_lt_of_cell? w _ hx632_0)).trans hx632_0
                   replace hx632_1 := (HB.out.cell (World.block_lt_of_cell? w _ hx632_1)).trans hx632_1
                   replace hx632_2 := (HB.out.cell (World.block_lt_of_cell? w _ hx632_2)).trans hx632_2
                   replace hx632_3 := (HB.out.cell (World.block_lt_of_cell? w _ hx632_3)).trans hx632_3
                   replace hx632_4 := (HB.out.cell (World.block_lt_of_cell? w _ hx632_4)).trans hx632_4
                   replace hx632_5 := (HB.out.cell (World.block_lt_of_cell? w _ hx632_5)).trans hx632_5
                   replace hx632_6 := (HB.out.cell (World.block_lt_of_cell? w _ hx632_6)).trans hx632_6
                   replace hx632_7 := (HB.out.cell (World.block_lt_of_cell? w _ hx632_7)).trans hx632_7
                   replace hx632_8 := (HB.out.cell (World.block_lt_of_cell? w _ hx632_8)).trans hx632_8
                   replace hx632_9 := (HB.out.cell (World.block_lt_of_cell? w _ hx632_9)).trans hx632_9
                   replace hx632_10 := (HB.out.cell (World.block_lt_of_cell? w _ hx632_10)).trans hx632_10
                   replace hx632_11 := (HB.out.cell (World.block_lt_of_cell? w _ hx632_11)).trans hx632_11
                   have HR632_11 := Aside0.mk hi632_11
                   have HC632_11 := Aside0.mk hl632_11
                   clear hi632_11 hl632_11
                   replace p632 := eq_true p632
                   replace q632 := eq_true q632
                   refine start_ (n := 12) (S := fun w' => w'.cell? ⟨gb623, 0, none⟩ = some (.int .i64 a0_0) ∧ w'.cell? ⟨gb623, 1, none⟩ = some (.int .i64 a0_1) ∧ w'.cell? ⟨gb623, 2, none⟩ = some (.int .i64 a0_2) ∧ w'.cell? ⟨gb623, 3, none⟩ = some (.slice A0_3 l0_3.length c0_3) ∧ w'.cell? ⟨gb623, 4, none⟩ = some (.slice A0_4 l0_4.length c0_4) ∧ w'.cell? ⟨gb623, 5, none⟩ = some (.slice A0_5 l0_5.length c0_5) ∧ w'.cell? ⟨gb623, 6, none⟩ = some (.slice (some ad631) l0_6.length c0_6) ∧ w'.cell? ⟨gb623, 7, none⟩ = some (.slice A0_7 l0_7.length c0_7) ∧ w'.cell? ⟨gb624, 0, none⟩ = some (.int .i64 a1_0) ∧ w'.cell? ⟨gb624, 1, none⟩ = some (.int .i64 a1_1) ∧ w'.cell? ⟨gb624, 2, none⟩ = some (.int .i64 a1_2) ∧ w'.cell? ⟨gb624, 3, none⟩ = some (.slice A1_3 l1_3.length c1_3) ∧ w'.cell? ⟨gb624, 4, none⟩ = some (.slice A1_4 l1_4.length c1_4) ∧ w'.cell? ⟨gb624, 5, none⟩ = some (.slice A1_5 l1_5.length c1_5) ∧ w'.cell? ⟨gb624, 6, none⟩ = some (.slice (some ad632) l1_6.length c1_6) ∧ w'.cell? ⟨gb624, 7, none⟩ = some (.slice A1_7 l1_7.length c1_7) ∧ w'.cell? (ad631.add ((x8_5).toNat * 12)) = some (.int .i64 ((rd_T100 l0_6 x8_5).f0)) ∧ w'.cell? ⟨(ad631.add ((x8_5).toNat * 12)).block, (ad631.add ((x8_5).toNat * 12)).off + 1, none⟩ = some (.int .i64 ((rd_T100 l0_6 x8_5).f1)) ∧ w'.cell? ⟨(ad631.add ((x8_5).toNat * 12)).block, (ad631.add ((x8_5).toNat * 12)).off + 2, none⟩ = some (.int .i64 ((rd_T100 l0_6 x8_5).f2)) ∧ w'.cell? ⟨(ad631.add ((x8_5).toNat * 12)).block, (ad631.add ((x8_5).toNat * 12)).off + 3, none⟩ = some (.int .i64 ((rd_T100 l0_6 x8_5).f3)) ∧ w'.cell? ⟨(ad631.add ((x8_5).toNat * 12)).block, (ad631.add ((x8_5).toNat * 12)).off + 4, none⟩ = some (.int .i64 ((rd_T100 l0_6 x8_5).f4)) ∧ w'.cell? ⟨(ad631.add ((x8_5).toNat * 12)).block, (ad631.add ((x8_5).toNat * 12)).off + 5, none⟩ = some (.int .i64 ((rd_T100 l0_6 x8_5).f5)) ∧ w'.cell? ⟨(ad631.add ((x8_5).toNat * 12)).block, (ad631.add ((x8_5).toNat * 12)).off + 6, none⟩ = some (.int .i64 ((rd_T100 l0_6 x8_5).f6)) ∧ w'.cell? ⟨(ad631.add ((x8_5).toNat * 12)).block, (ad631.add ((x8_5).toNat * 12)).off + 7, none⟩ = some (.int .i64 ((rd_T100 l0_6 x8_5).f7)) ∧ w'.cell? ⟨(ad631.add ((x8_5).toNat * 12)).block, (ad631.add ((x8_5).toNat * 12)).off + 8, none⟩ = some (.int .i64 ((rd_T100 l0_6 x8_5).f8)) ∧ w'.cell? ⟨(ad631.add ((x8_5).toNat * 12)).block, (ad631.add ((x8_5).toNat * 12)).off + 9, none⟩ = some (.int .i64 ((rd_T100 l0_6 x8_5).f9)) ∧ w'.cell? ⟨(ad631.add ((x8_5).toNat * 12)).block, (ad631.add ((x8_5).toNat * 12)).off + 10, none⟩ = some (.int .i64 ((rd_T100 l0_6 x8_5).f10)) ∧ w'.cell? ⟨(ad631.add ((x8_5).toNat * 12)).block, (ad631.add ((x8_5).toNat * 12)).off + 11, none⟩ = some (.slice A631_11 ((rd_T100 l0_6 x8_5).f11).length c631_11) ∧ w'.cell? (ad632.add ((x8_5).toNat * 12)) = some (.int .i64 ((rd_T100 l1_6 x8_5).f0)) ∧ w'.cell? ⟨(ad632.add ((x8_5).toNat * 12)).block, (ad632.add ((x8_5).toNat * 12)).off + 1, none⟩ = some (.int .i64 ((rd_T100 l1_6 x8_5).f1)) ∧ w'.cell? ⟨(ad632.add ((x8_5).toNat * 12)).block, (ad632.add ((x8_5).toNat * 12)).off + 2, none⟩ = some (.int .i64 ((rd_T100 l1_6 x8_5).f2)) ∧ w'.cell? ⟨(ad632.add ((x8_5).toNat * 12)).block, (ad632.add ((x8_5).toNat * 12)).off + 3, none⟩ = some (.int .i64 ((rd_T100 l1_6 x8_5).f3)) ∧ w'.cell? ⟨(ad632.add ((x8_5).toNat * 12)).block, (ad632.add ((x8_5).toNat * 12)).off + 4, none⟩ = some (.int .i64 ((rd_T100 l1_6 x8_5).f4)) ∧ w'.cell? ⟨(ad632.add ((x8_5).toNat * 12)).block, (ad632.add ((x8_5).toNat * 12)).off + 5, none⟩ = some (.int .i64 ((rd_T100 l1_6 x8_5).f5)) ∧ w'.cell? ⟨(ad632.add ((x8_5).toNat * 12)).block, (ad632.add ((x8_5).toNat * 12)).off + 6, none⟩ = some (.int .i64 ((rd_T100 l1_6 x8_5).f6)) ∧ w'.cell? ⟨(ad632.add ((x8_5).toNat * 12)).block, (ad632.add ((x8_5).toNat * 12)).off + 7, none⟩ = some (.int .i64 ((rd_T100 l1_6 x8_5).f7)) ∧ w'.cell? ⟨(ad632.add ((x8_5).toNat * 12)).block, (ad632.add ((x8_5).toNat * 12)).off + 8, none⟩ = some (.int .i64 ((rd_T100 l1_6 x8_5).f8)) ∧ w'.cell? ⟨(ad632.add ((x8_5).toNat * 12)).block, (ad632.add ((x8_5).toNat * 12)).off + 9, none⟩ = some (.int .i64 ((rd_T100 l1_6 x8_5).f9)) ∧ w'.cell? ⟨(ad632.add ((x8_5).toNat * 12)).block, (ad632.add ((x8_5).toNat * 12)).off + 10, none⟩ = some (.int .i64 ((rd_T100 l1_6 x8_5).f10)) ∧ w'.cell? ⟨(ad632.add ((x8_5).toNat * 12)).block, (ad632.add ((x8_5).toNat * 12)).off + 11, none⟩ = some (.slice A632_11 ((rd_T100 l1_6 x8_5).f11).length c632_11)) (ds := []) #[false, false, false, false, false, false, false, false, false, false, false, false] (by kernel_rfl) rfl rfl ⟨(blk_cell BK623.out 0).trans rfl, (blk_cell BK623.out 1).trans rfl, (blk_cell BK623.out 2).trans rfl, (blk_cell BK623.out 3).trans rfl, (blk_cell BK623.out 4).trans rfl, (blk_cell BK623.out 5).trans rfl, (blk_cell BK623.out 6).trans rfl, (blk_cell BK623.out 7).trans rfl, (blk_cell BK624.out 0).trans rfl, (blk_cell BK624.out 1).trans rfl, (blk_cell BK624.out 2).trans rfl, (blk_cell BK624.out 3).trans rfl, (blk_cell BK624.out 4).trans rfl, (blk_cell BK624.out 5).trans rfl, (blk_cell BK624.out 6).trans rfl, (blk_cell BK624.out 7).trans rfl, ((HB.out.cell (World.block_lt_of_cell? w _ hw631_0)).trans hw631_0), ((HB.out.cell (World.block_lt_of_cell? w _ hw631_1)).trans hw631_1), ((HB.out.cell (World.block_lt_of_cell? w _ hw631_2)).trans hw631_2), ((HB.out.cell (World.block_lt_of_cell? w _ hw631_3)).trans hw631_3), ((HB.out.cell (World.block_lt_of_cell? w _ hw631_4)).trans hw631_4), ((HB.out.cell (World.block_lt_of_cell? w _ hw631_5)).trans hw631_5), ((HB.out.cell (World.block_lt_of_cell? w _ hw631_6)).trans hw631_6), ((HB.out.cell (World.block_lt_of_cell? w _ hw631_7)).trans hw631_7), ((HB.out.cell (World.block_lt_of_cell? w _ hw631_8)).trans hw631_8), ((HB.out.cell (World.block_lt_of_cell? w _ hw631_9)).trans hw631_9), ((HB.out.cell (World.block_lt_of_cell? w _ hw631_10)).trans hw631_10), ((HB.out.cell (World.block_lt_of_cell? w _ hw631_11)).trans hw631_11), ((HB.out.cell (World.block_lt_of_cell? w _ hw632_0)).trans hw632_0), ((HB.out.cell (World.block_lt_of_cell? w _ hw632_1)).trans hw632_1), ((HB.out.cell (World.block_lt_of_cell? w _ hw632_2)).trans hw632_2), ((HB.out.cell (World.block_lt_of_cell? w _ hw632_3)).trans hw632_3), ((HB.out.cell (World.block_lt_of_cell? w _ hw632_4)).trans hw632_4), ((HB.out.cell (World.block_lt_of_cell? w _ hw632_5)).trans hw632_5), ((HB.out.cell (World.block_lt_of_cell? w _ hw632_6)).trans hw632_6), ((HB.out.cell (World.block_lt_of_cell? w _ hw632_7)).trans hw632_7), ((HB.out.cell (World.block_lt_of_cell? w _ hw632_8)).trans hw632_8), ((HB.out.cell (World.block_lt_of_cell? w _ hw632_9)).trans hw632_9), ((HB.out.cell (World.block_lt_of_cell? w _ hw632_10)).trans hw632_10), ((HB.out.cell (World.block_lt_of_cell? w _ hw632_11)).trans hw632_11)⟩ (fun hHeld => ?_); refine with_tabW prebendref13_Same.tab21 prebendref13_Same.bits21 (fun HT_ HW_ => ?_)
                   generalize wr.drew = w81 at BK623 BK624 HB HR631_11 HR632_11 hx631_0 hx631_1 hx631_10 hx631_11 hx631_2 hx631_3 hx631_4 hx631_5 hx631_6 hx631_7 hx631_8 hx631_9 hx632_0 hx632_1 hx632_10 hx632_11 hx632_2 hx632_3 hx632_4 hx632_5 hx632_6 hx632_7 hx632_8 hx632_9 hHeld ⊢
                   refine plan_ [(0, 135), (2, 137), (5, 140), (7, 142)] ?_
                   iterate 4 (refine planP_ (v := ?_) (a' := ?_) rfl rfl (any_of HT_.out (by kernel_rfl)) (fun _ _ _ h => h) (Or.inl ⟨by rfl, ?_⟩) ?_ ?_; rotate_left; (intro w'; go_simp; with_reducible rfl); rotate_left; (simp only [Act.put, List.setIfInBounds_toArray, List.set_cons_zero, List.set_cons_succ, i64_w, i32_w]; rfl))
                   refine planEnd_ ?_
                   refine plan_ [(1, 136)] ?_
                   refine planT_ (v := ?_) (a' := ?_) rfl rfl (take_ofW HT_.out HW_.out (by kernel_rfl)) (fun _ _ _ h => h) (Or.inl ⟨by rfl, ?_⟩) hHeld ?_ ?_; rotate_left; (rintro w' ⟨s0, s1, s2, s3, s4, s5, s6, s7, s8, s9, s10, s11, s12, s13, s14, s15, s16, s17, s18, s19, s20, s21, s22, s23, s24, s25, s26, s27, s28, s29, s30, s31, s32, s33, s34, s35, s36, s37, s38, s39⟩; go_simp; with_reducible rfl); rotate_left; (simp only [Act.put, List.setIfInBounds_toArray, List.set_cons_zero, List.set_cons_succ, i64_w, i32_w]; rfl)
                   refine planEnd_ ?_
                   refine plan_ [(3, 138)] ?_
                   refine planP_ (v := ?_) (a' := ?_) rfl rfl (any_of HT_.out (by kernel_rfl)) (fun _ _ _ h => h) (Or.inl ⟨by rfl, ?_⟩) ?_ ?_; rotate_left; (intro w'; go_simp; with_reducible rfl); rotate_left; (simp only [Act.put, List.setIfInBounds_toArray, List.set_cons_zero, List.set_cons_succ, i64_w, i32_w]; rfl)
                   refine planEnd_ ?_
                   refine plan_ [(4, 139), (6, 141)] ?_
                   iterate 2 (refine planT_ (v := ?_) (a' := ?_) rfl rfl (take_ofW HT_.out HW_.out (by kernel_rfl)) (fun _ _ _ h => h) (Or.inl ⟨by rfl, ?_⟩) hHeld ?_ ?_; rotate_left; (rintro w' ⟨s0, s1, s2, s3, s4, s5, s6, s7, s8, s9, s10, s11, s12, s13, s14, s15, s16, s17, s18, s19, s20, s21, s22, s23, s24, s25, s26, s27, s28, s29, s30, s31, s32, s33, s34, s35, s36, s37, s38, s39⟩; go_simp; with_reducible rfl); rotate_left; (simp only [Act.put, List.setIfInBounds_toArray, List.set_cons_zero, List.set_cons_succ, i64_w, i32_w]; rfl))
                   refine planEnd_ ?_
                   refine plan_ [(8, 143)] ?_
                   refine planP_ (v := ?_) (a' := ?_) rfl rfl (any_of HT_.out (by kernel_rfl)) (fun _ _ _ h => h) (Or.inl ⟨by rfl, ?_⟩) ?_ ?_; rotate_left; (intro w'; go_simp; with_reducible rfl); rotate_left; (simp only [Act.put, List.setIfInBounds_toArray, List.set_cons_zero, List.set_cons_succ, i64_w, i32_w]; rfl)
                   refine planEnd_ ?_
                   refine plan_ [(9, 144)] ?_
                   refine planT_ (v := ?_) (a' := ?_) rfl rfl (take_ofW HT_.out HW_.out (by kernel_rfl)) (fun _ _ _ h => h) (Or.inl ⟨by rfl, ?_⟩) hHeld ?_ ?_; rotate_left; (rintro w' ⟨s0, s1, s2, s3, s4, s5, s6, s7, s8, s9, s10, s11, s12, s13, s14, s15, s16, s17, s18, s19, s20, s21, s22, s23, s24, s25, s26, s27, s28, s29, s30, s31, s32, s33, s34, s35, s36, s37, s38, s39⟩; go_simp; with_reducible rfl); rotate_left; (simp only [Act.put, List.setIfInBounds_toArray, List.set_cons_zero, List.set_cons_succ, i64_w, i32_w]; rfl)
                   refine planEnd_ ?_
                   refine one_ (i := 10) (N := some 145) #[true, true, true, true, true, true, true, true, true, true, true, false] rfl rfl (one_of HT_.out (by kernel_rfl)) (by decide) (fun K hK => ?_)
                   refine goes_ Try.func66 (by kernel_rfl) rfl #[.agg #[.int .i64 ((rd_T100 l0_6 x8_5).f0), .int .i64 ((rd_T100 l0_6 x8_5).f1), .int .i64 ((rd_T100 l0_6 x8_5).f2), .int .i64 ((rd_T100 l0_6 x8_5).f3), .int .i64 ((rd_T100 l0_6 x8_5).f4), .int .i64 ((rd_T100 l0_6 x8_5).f5), .int .i64 ((rd_T100 l0_6 x8_5).f6), .int .i64 ((rd_T100 l0_6 x8_5).f7), .int .i64 ((rd_T100 l0_6 x8_5).f8), .int .i64 ((rd_T100 l0_6 x8_5).f9), .int .i64 ((rd_T100 l0_6 x8_5).f10), .slice A631_11 ((rd_T100 l0_6 x8_5).f11).length c631_11], .agg #[.int .i64 ((rd_T100 l1_6 x8_5).f0), .int .i64 ((rd_T100 l1_6 x8_5).f1), .int .i64 ((rd_T100 l1_6 x8_5).f2), .int .i64 ((rd_T100 l1_6 x8_5).f3), .int .i64 ((rd_T100 l1_6 x8_5).f4), .int .i64 ((rd_T100 l1_6 x8_5).f5), .int .i64 ((rd_T100 l1_6 x8_5).f6), .int .i64 ((rd_T100 l1_6 x8_5).f7), .int .i64 ((rd_T100 l1_6 x8_5).f8), .int .i64 ((rd_T100 l1_6 x8_5).f9), .int .i64 ((rd_T100 l1_6 x8_5).f10), .slice A632_11 ((rd_T100 l1_6 x8_5).f11).length c632_11]] (by rfl) rfl rfl mt ?_
                   with_reducible refine (prebendref13_SameJob.calls k5 ((rd_T100 l0_6 x8_5).f0) ((rd_T100 l0_6 x8_5).f1) ((rd_T100 l0_6 x8_5).f2) ((rd_T100 l0_6 x8_5).f3) ((rd_T100 l0_6 x8_5).f4) ((rd_T100 l0_6 x8_5).f5) ((rd_T100 l0_6 x8_5).f6) ((rd_T100 l0_6 x8_5).f7) ((rd_T100 l0_6 x8_5).f8) ((rd_T100 l0_6 x8_5).f9) ((rd_T100 l0_6 x8_5).f10) _ _ ((rd_T100 l0_6 x8_5).f11) ((rd_T100 l1_6 x8_5).f0) ((rd_T100 l1_6 x8_5).f1) ((rd_T100 l1_6 x8_5).f2) ((rd_T100 l1_6 x8_5).f3) ((rd_T100 l1_6 x8_5).f4) ((rd_T100 l1_6 x8_5).f5) ((rd_T100 l1_6 x8_5).f6) ((rd_T100 l1_6 x8_5).f7) ((rd_T100 l1_6 x8_5).f8) ((rd_T100 l1_6 x8_5).f9) ((rd_T100 l1_6 x8_5).f10) _ _ ((rd_T100 l1_6 x8_5).f11) true _ ?side1 ?side2 ?side3 ?side4 A77.out).mono ?_
                   (case side1 => repeat (first | exact (Kd.C_below HR631_11.out HB.out) | (with_reducible refine Kd.C_alloc ?_ _) | (with_reducible refine Kd.C_drewN ?_ _) | (with_reducible refine Kd.C_drew ?_)))
                   (case side2 => exact HC631_11.out)
                   (case side3 => repeat (first | exact (Kd.C_below HR632_11.out HB.out) | (with_reducible refine Kd.C_alloc ?_ _) | (with_reducible refine Kd.C_drewN ?_ _) | (with_reducible refine Kd.C_drew ?_)))
                   (case side4 => exact HC632_11.out)
                   rintro e w82 ⟨rfl, hb⟩
                   refine ⟨_, rfl, ?_⟩
                   have n0_ := Aside0.mk (blk_below (g := gb623) (o := .cells #[.int .i64 a0_0, .int .i64 a0_1, .int .i64 a0_2, .slice A0_3 l0_3.length c0_3, .slice A0_4 l0_4.length c0_4, .slice A0_5 l0_5.length c0_5, .slice (some ad631) l0_6.length c0_6, .slice A0_7 l0_7.length c0_7] 67 (0, 0)) (mBK BK623.out) hb)
                   have n1_ := Aside0.mk (blk_below (g := gb624) (o := .cells #[.int .i64 a1_0, .int .i64 a1_1, .int .i64 a1_2, .slice A1_3 l1_3.length c1_3, .slice A1_4 l1_4.length c1_4, .slice A1_5 l1_5.length c1_5, .slice (some ad632) l1_6.length c1_6, .slice A1_7 l1_7.length c1_7] 67 (0, 0)) (mBK BK624.out) hb)
                   have n2_ := Aside0.mk (below_step (mBs HB.out) hb)
                   clear BK623 BK624 HB
                   have BK623 := n0_
                   have BK624 := n1_
                   have HB := n2_
                   clear n0_ n1_ n2_
                   clear hb
                   refine hK.out _ _ ⟨(blk_cell BK623.out 0).trans rfl, (blk_cell BK623.out 1).trans rfl, (blk_cell BK623.out 2).trans rfl, (blk_cell BK623.out 3).trans rfl, (blk_cell BK623.out 4).trans rfl, (blk_cell BK623.out 5).trans rfl, (blk_cell BK623.out 6).trans rfl, (blk_cell BK623.out 7).trans rfl, (blk_cell BK624.out 0).trans rfl, (blk_cell BK624.out 1).trans rfl, (blk_cell BK624.out 2).trans rfl, (blk_cell BK624.out 3).trans rfl, (blk_cell BK624.out 4).trans rfl, (blk_cell BK624.out 5).trans rfl, (blk_cell BK624.out 6).trans rfl, (blk_cell BK624.out 7).trans rfl, ((HB.out.cell (World.block_lt_of_cell? w _ hw631_0)).trans hw631_0), ((HB.out.cell (World.block_lt_of_cell? w _ hw631_1)).trans hw631_1), ((HB.out.cell (World.block_lt_of_cell? w _ hw631_2)).trans hw631_2), ((HB.out.cell (World.block_lt_of_cell? w _ hw631_3)).trans hw631_3), ((HB.out.cell (World.block_lt_of_cell? w _ hw631_4)).trans hw631_4), ((HB.out.cell (World.block_lt_of_cell? w _ hw631_5)).trans hw631_5), ((HB.out.cell (World.block_lt_of_cell? w _ hw631_6)).trans hw631_6), ((HB.out.cell (World.block_lt_of_cell? w _ hw631_7)).trans hw631_7), ((HB.out.cell (World.block_lt_of_cell? w _ hw631_8)).trans hw631_8), ((HB.out.cell (World.block_lt_of_cell? w _ hw631_9)).trans hw631_9), ((HB.out.cell (World.block_lt_of_cell? w _ hw631_10)).trans hw631_10), ((HB.out.cell (World.block_lt_of_cell? w _ hw631_11)).trans hw631_11), ((HB.out.cell (World.block_lt_of_cell? w _ hw632_0)).trans hw632_0), ((HB.out.cell (World.block_lt_of_cell? w _ hw632_1)).trans hw632_1), ((HB.out.cell (World.block_lt_of_cell? w _ hw632_2)).trans hw632_2), ((HB.out.cell (World.block_lt_of_cell? w _ hw632_3)).trans hw632_3), ((HB.out.cell (World.block_lt_of_cell? w _ hw632_4)).trans hw632_4), ((HB.out.cell (World.block_lt_of_cell? w _ hw632_5)).trans hw632_5), ((HB.out.cell (World.block_lt_of_cell? w _ hw632_6)).trans hw632_6), ((HB.out.cell (World.block_lt_of_cell? w _ hw632_7)).trans hw632_7), ((HB.out.cell (World.block_lt_of_cell? w _ hw632_8)).trans hw632_8), ((HB.out.cell (World.block_lt_of_cell? w _ hw632_9)).trans hw632_9), ((HB.out.cell (World.block_lt_of_cell? w _ hw632_10)).trans hw632_10), ((HB.out.cell (World.block_lt_of_cell? w _ hw632_11)).trans hw632_11)⟩ (fun hHeld => ?_)
                   clear hK K
                   refine norm_ (a' := ?_) ?_ ?_
                   rotate_left
                   ·show Act.put _ (some 145) _ = _
                    simp only [Act.put, List.setIfInBounds_toArray, List.set_cons_zero, List.set_cons_succ, i64_w, i32_w]
                    rfl
                   refine plan_ [(11, 146)] ?_
                   refine planP_ (v := ?_) (a' := ?_) rfl rfl (any_of HT_.out (by kernel_rfl)) (fun _ _ _ h => h) (Or.inl ⟨by rfl, ?_⟩) ?_ ?_; rotate_left; (intro w'; go_simp; with_reducible rfl); rotate_left; (simp only [Act.put, List.setIfInBounds_toArray, List.set_cons_zero, List.set_cons_succ, i64_w, i32_w]; rfl)
                   refine planEnd_ ?_
                   refine done_ (done_of HT_.out (by kernel_rfl)) ?_
                   try go_wp2
                   go_roundg k5
                   case measure => have := HJ2.out; have := HK2.out; have := HK3.out; have := HK4.out; have := HK5.out; omega
                   case rel => exact ⟨(wrap64 (x8_5 + 1)), ez, H', ⟨by have := HJ2.out; have := HK2.out; have := HK3.out; have := HK4.out; have := HK5.out; omega⟩, ⟨mBK BK623.out⟩, ⟨mBK BK624.out⟩, ⟨mBs HB.out⟩⟩
                  ·replace c78 := Bool.eq_false_iff.mpr c78
                   subst c78
                   have H1 : (some false) = some r := by rw [if_neg (show ¬ (false = true) by decide)] at H; exact H
                   clear H
                   have H := H1
                   clear H1
                   obtain rfl := Option.some.inj H
                   have hnb83 := NB623_624.out
                   have hnc83 := NB624_623.out
                   have hcz84_0 : wr.cell? ⟨gb623, 0, none⟩ = some (.int .i64 a0_0) := (blk_cell BK623.out 0).trans rfl
                   have hcz84_1 : wr.cell? ⟨gb623, 1, none⟩ = some (.int .i64 a0_1) := (blk_cell BK623.out 1).trans rfl
                   have hcz84_2 : wr.cell? ⟨gb623, 2, none⟩ = some (.int .i64 a0_2) := (blk_cell BK623.out 2).trans rfl
                   have hcz84_3 : wr.cell? ⟨gb623, 3, none⟩ = some (.slice A0_3 l0_3.length c0_3) := (blk_cell BK623.out 3).trans rfl
                   have hcz84_4 : wr.cell? ⟨gb623, 4, none⟩ = some (.slice A0_4 l0_4.length c0_4) := (blk_cell BK623.out 4).trans rfl
                   have hcz84_5 : wr.cell? ⟨gb623, 5, none⟩ = some (.slice A0_5 l0_5.length c0_5) := (blk_cell BK623.out 5).trans rfl
                   have hcz84_6 : wr.cell? ⟨gb623, 6, none⟩ = some (.slice A0_6 l0_6.length c0_6) := (blk_cell BK623.out 6).trans rfl
                   have hcz84_7 : wr.cell? ⟨gb623, 7, none⟩ = some (.slice A0_7 l0_7.length c0_7) := (blk_cell BK623.out 7).trans rfl
                   have hfz84_0 := blk_frozen BK623.out 0
                   have hfz84_1 := blk_frozen BK623.out 1
                   have hfz84_2 := blk_frozen BK623.out 2
                   have hfz84_3 := blk_frozen BK623.out 3
                   have hfz84_4 := blk_frozen BK623.out 4
                   have hfz84_5 := blk_frozen BK623.out 5
                   have hfz84_6 := blk_frozen BK623.out 6
                   have hfz84_7 := blk_frozen BK623.out 7
                   try go_wp2
                   have n0_ := Aside0.mk (blk_drew BK623.out)
                   have n1_ := Aside0.mk (blk_drew BK624.out)
                   have n2_ := Aside0.mk (below_drew1 HB.out)
                   clear BK623 BK624 HB
                   have BK623 := n0_
                   have BK624 := n1_
                   have HB := n2_
                   clear n0_ n1_ n2_
                   have p631 : 0 ≤ (x8_5 : Int) := oda
                   have q631 : x8_5 < (l0_6.length : Int) := oda
                   obtain ⟨ad631, A631_11, c631_11, e631, hx631_0, hx631_1, hx631_2, hx631_3, hx631_4, hx631_5, hx631_6, hx631_7, hx631_8, hx631_9, hx631_10, hx631_11, hl631_11, hi631_11⟩ := at_T100 HR0_6.out x8_5 p631 q631
                   have hw631_11 := hx631_11
                   have hw631_10 := hx631_10
                   have hw631_9 := hx631_9
                   have hw631_8 := hx631_8
                   have hw631_7 := hx631_7
                   have hw631_6 := hx631_6
                   have hw631_5 := hx631_5
                   have hw631_4 := hx631_4
                   have hw631_3 := hx631_3
                   have hw631_2 := hx631_2
                   have hw631_1 := hx631_1
                   have hw631_0 := hx631_0
                   cases e631
                   replace hx631_0 := (HB.out.cell (World.block_lt_of_cell? w _ hx631_0)).trans hx631_0
                   replace hx631_1 := (HB.out.cell (World.block_lt_of_cell? w _ hx631_1)).trans hx631_1
                   replace hx631_2 := (HB.out.cell (World.block_lt_of_cell? w _ hx631_2)).trans hx631_2
                   replace hx631_3 := (HB.out.cell (World.block_lt_of_cell? w _ hx631_3)).trans hx631_3
                   replace hx631_4 := (HB.out.cell (World.block_lt_of_cell? w _ hx631_4)).trans hx631_4
                   replace hx631_5 := (HB.out.cell (World.block_lt_of_cell? w _ hx631_5)).trans hx631_5
                   replace hx631_6 := (HB.out.cell (World.block_lt_of_cell? w _ hx631_6)).trans hx631_6
                   replace hx631_7 := (HB.out.cell (World.block_lt_of_cell? w _ hx631_7)).trans hx631_7
                   replace hx631_8 := (HB.out.cell (World.block_lt_of_cell? w _ hx631_8)).trans hx631_8
                   replace hx631_9 := (HB.out.cell (World.block_lt_of_cell? w _ hx631_9)).trans hx631_9
                   replace hx631_10 := (HB.out.cell (World.block_lt_of_cell? w _ hx631_10)).trans hx631_10
                   replace hx631_11 := (HB.out.cell (World.block_lt_of_cell? w _ hx631_11)).trans hx631_11
                   have HR631_11 := Aside0.mk hi631_11
                   have HC631_11 := Aside0.mk hl631_11
                   clear hi631_11 hl631_11
                   replace p631 := eq_true p631
                   replace q631 := eq_true q631
                   have p632 : 0 ≤ (x8_5 : Int) := oda
                   have q632 : x8_5 < (l1_6.length : Int) := oda
                   obtain ⟨ad632, A632_11, c632_11, e632, hx632_0, hx632_1, hx632_2, hx632_3, hx632_4, hx632_5, hx632_6, hx632_7, hx632_8, hx632_9, hx632_10, hx632_11, hl632_11, hi632_11⟩ := at_T100 HR1_6.out x8_5 p632 q632
                   have hw632_11 := hx632_11
                   have hw632_10 := hx632_10
                   have hw632_9 := hx632_9
                   have hw632_8 := hx632_8
                   have hw632_7 := hx632_7
                   have hw632_6 := hx632_6
                   have hw632_5 := hx632_5
                   have hw632_4 := hx632_4
                   have hw632_3 := hx632_3
                   have hw632_2 := hx632_2
                   have hw632_1 := hx632_1
                   have hw632_0 := hx632_0
                   cases e632
                   replace hx632_0 := (HB.out.cell (World.block_lt_of_cell? w _ hx632_0)).trans hx632_0
                   replace hx632_1 := (HB.out.cell (World.block_lt_of_cell? w _ hx632_1)).trans hx632_1
                   replace hx632_2 := (HB.out.cell (World.block_lt_of_cell? w _ hx632_2)).trans hx632_2
                   replace hx632_3 := (HB.out.cell (World.block_lt_of_cell? w _ hx632_3)).trans hx632_3
                   replace hx632_4 := (HB.out.cell (World.block_lt_of_cell? w _ hx632_4)).trans hx632_4
                   replace hx632_5 := (HB.out.cell (World.block_lt_of_cell? w _ hx632_5)).trans hx632_5
                   replace hx632_6 := (HB.out.cell (World.block_lt_of_cell? w _ hx632_6)).trans hx632_6
                   replace hx632_7 := (HB.out.cell (World.block_lt_of_cell? w _ hx632_7)).trans hx632_7
                   replace hx632_8 := (HB.out.cell (World.block_lt_of_cell? w _ hx632_8)).trans hx632_8
                   replace hx632_9 := (HB.out.cell (World.block_lt_of_cell? w _ hx632_9)).trans hx632_9
                   replace hx632_10 := (HB.out.cell (World.block_lt_of_cell? w _ hx632_10)).trans hx632_10
                   replace hx632_11 := (HB.out.cell (World.block_lt_of_cell? w _ hx632_11)).trans hx632_11
                   have HR632_11 := Aside0.mk hi632_11
                   have HC632_11 := Aside0.mk hl632_11
                   clear hi632_11 hl632_11
                   replace p632 := eq_true p632
                   replace q632 := eq_true q632
                   refine start_ (n := 12) (S := fun w' => w'.cell? ⟨gb623, 0, none⟩ = some (.int .i64 a0_0) ∧ w'.cell? ⟨gb623, 1, none⟩ = some (.int .i64 a0_1) ∧ w'.cell? ⟨gb623, 2, none⟩ = some (.int .i64 a0_2) ∧ w'.cell? ⟨gb623, 3, none⟩ = some (.slice A0_3 l0_3.length c0_3) ∧ w'.cell? ⟨gb623, 4, none⟩ = some (.slice A0_4 l0_4.length c0_4) ∧ w'.cell? ⟨gb623, 5, none⟩ = some (.slice A0_5 l0_5.length c0_5) ∧ w'.cell? ⟨gb623, 6, none⟩ = some (.slice (some ad631) l0_6.length c0_6) ∧ w'.cell? ⟨gb623, 7, none⟩ = some (.slice A0_7 l0_7.length c0_7) ∧ w'.cell? ⟨gb624, 0, none⟩ = some (.int .i64 a1_0) ∧ w'.cell? ⟨gb624, 1, none⟩ = some (.int .i64 a1_1) ∧ w'.cell? ⟨gb624, 2, none⟩ = some (.int .i64 a1_2) ∧ w'.cell? ⟨gb624, 3, none⟩ = some (.slice A1_3 l1_3.length c1_3) ∧ w'.cell? ⟨gb624, 4, none⟩ = some (.slice A1_4 l1_4.length c1_4) ∧ w'.cell? ⟨gb624, 5, none⟩ = some (.slice A1_5 l1_5.length c1_5) ∧ w'.cell? ⟨gb624, 6, none⟩ = some (.slice (some ad632) l1_6.length c1_6) ∧ w'.cell? ⟨gb624, 7, none⟩ = some (.slice A1_7 l1_7.length c1_7) ∧ w'.cell? (ad631.add ((x8_5).toNat * 12)) = some (.int .i64 ((rd_T100 l0_6 x8_5).f0)) ∧ w'.cell? ⟨(ad631.add ((x8_5).toNat * 12)).block, (ad631.add ((x8_5).toNat * 12)).off + 1, none⟩ = some (.int .i64 ((rd_T100 l0_6 x8_5).f1)) ∧ w'.cell? ⟨(ad631.add ((x8_5).toNat * 12)).block, (ad631.add ((x8_5).toNat * 12)).off + 2, none⟩ = some (.int .i64 ((rd_T100 l0_6 x8_5).f2)) ∧ w'.cell? ⟨(ad631.add ((x8_5).toNat * 12)).block, (ad631.add ((x8_5).toNat * 12)).off + 3, none⟩ = some (.int .i64 ((rd_T100 l0_6 x8_5).f3)) ∧ w'.cell? ⟨(ad631.add ((x8_5).toNat * 12)).block, (ad631.add ((x8_5).toNat * 12)).off + 4, none⟩ = some (.int .i64 ((rd_T100 l0_6 x8_5).f4)) ∧ w'.cell? ⟨(ad631.add ((x8_5).toNat * 12)).block, (ad631.add ((x8_5).toNat * 12)).off + 5, none⟩ = some (.int .i64 ((rd_T100 l0_6 x8_5).f5)) ∧ w'.cell? ⟨(ad631.add ((x8_5).toNat * 12)).block, (ad631.add ((x8_5).toNat * 12)).off + 6, none⟩ = some (.int .i64 ((rd_T100 l0_6 x8_5).f6)) ∧ w'.cell? ⟨(ad631.add ((x8_5).toNat * 12)).block, (ad631.add ((x8_5).toNat * 12)).off + 7, none⟩ = some (.int .i64 ((rd_T100 l0_6 x8_5).f7)) ∧ w'.cell? ⟨(ad631.add ((x8_5).toNat * 12)).block, (ad631.add ((x8_5).toNat * 12)).off + 8, none⟩ = some (.int .i64 ((rd_T100 l0_6 x8_5).f8)) ∧ w'.cell? ⟨(ad631.add ((x8_5).toNat * 12)).block, (ad631.add ((x8_5).toNat * 12)).off + 9, none⟩ = some (.int .i64 ((rd_T100 l0_6 x8_5).f9)) ∧ w'.cell? ⟨(ad631.add ((x8_5).toNat * 12)).block, (ad631.add ((x8_5).toNat * 12)).off + 10, none⟩ = some (.int .i64 ((rd_T100 l0_6 x8_5).f10)) ∧ w'.cell? ⟨(ad631.add ((x8_5).toNat * 12)).block, (ad631.add ((x8_5).toNat * 12)).off + 11, none⟩ = some (.slice A631_11 ((rd_T100 l0_6 x8_5).f11).length c631_11) ∧ w'.cell? (ad632.add ((x8_5).toNat * 12)) = some (.int .i64 ((rd_T100 l1_6 x8_5).f0)) ∧ w'.cell? ⟨(ad632.add ((x8_5).toNat * 12)).block, (ad632.add ((x8_5).toNat * 12)).off + 1, none⟩ = some (.int .i64 ((rd_T100 l1_6 x8_5).f1)) ∧ w'.cell? ⟨(ad632.add ((x8_5).toNat * 12)).block, (ad632.add ((x8_5).toNat * 12)).off + 2, none⟩ = some (.int .i64 ((rd_T100 l1_6 x8_5).f2)) ∧ w'.cell? ⟨(ad632.add ((x8_5).toNat * 12)).block, (ad632.add ((x8_5).toNat * 12)).off + 3, none⟩ = some (.int .i64 ((rd_T100 l1_6 x8_5).f3)) ∧ w'.cell? ⟨(ad632.add ((x8_5).toNat * 12)).block, (ad632.add ((x8_5).toNat * 12)).off + 4, none⟩ = some (.int .i64 ((rd_T100 l1_6 x8_5).f4)) ∧ w'.cell? ⟨(ad632.add ((x8_5).toNat * 12)).block, (ad632.add ((x8_5).toNat * 12)).off + 5, none⟩ = some (.int .i64 ((rd_T100 l1_6 x8_5).f5)) ∧ w'.cell? ⟨(ad632.add ((x8_5).toNat * 12)).block, (ad632.add ((x8_5).toNat * 12)).off + 6, none⟩ = some (.int .i64 ((rd_T100 l1_6 x8_5).f6)) ∧ w'.cell? ⟨(ad632.add ((x8_5).toNat * 12)).block, (ad632.add ((x8_5).toNat * 12)).off + 7, none⟩ = some (.int .i64 ((rd_T100 l1_6 x8_5).f7)) ∧ w'.cell? ⟨(ad632.add ((x8_5).toNat * 12)).block, (ad632.add ((x8_5).toNat * 12)).off + 8, none⟩ = some (.int .i64 ((rd_T100 l1_6 x8_5).f8)) ∧ w'.cell? ⟨(ad632.add ((x8_5).toNat * 12)).block, (ad632.add ((x8_5).toNat * 12)).off + 9, none⟩ = some (.int .i64 ((rd_T100 l1_6 x8_5).f9)) ∧ w'.cell? ⟨(ad632.add ((x8_5).toNat * 12)).block, (ad632.add ((x8_5).toNat * 12)).off + 10, none⟩ = some (.int .i64 ((rd_T100 l1_6 x8_5).f10)) ∧ w'.cell? ⟨(ad632.add ((x8_5).toNat * 12)).block, (ad632.add ((x8_5).toNat * 12)).off + 11, none⟩ = some (.slice A632_11 ((rd_T100 l1_6 x8_5).f11).length c632_11)) (ds := []) #[false, false, false, false, false, false, false, false, false, false, false, false] (by kernel_rfl) rfl rfl ⟨(blk_cell BK623.out 0).trans rfl, (blk_cell BK623.out 1).trans rfl, (blk_cell BK623.out 2).trans rfl, (blk_cell BK623.out 3).trans rfl, (blk_cell BK623.out 4).trans rfl, (blk_cell BK623.out 5).trans rfl, (blk_cell BK623.out 6).trans rfl, (blk_cell BK623.out 7).trans rfl, (blk_cell BK624.out 0).trans rfl, (blk_cell BK624.out 1).trans rfl, (blk_cell BK624.out 2).trans rfl, (blk_cell BK624.out 3).trans rfl, (blk_cell BK624.out 4).trans rfl, (blk_cell BK624.out 5).trans rfl, (blk_cell BK624.out 6).trans rfl, (blk_cell BK624.out 7).trans rfl, ((HB.out.cell (World.block_lt_of_cell? w _ hw631_0)).trans hw631_0), ((HB.out.cell (World.block_lt_of_cell? w _ hw631_1)).trans hw631_1), ((HB.out.cell (World.block_lt_of_cell? w _ hw631_2)).trans hw631_2), ((HB.out.cell (World.block_lt_of_cell? w _ hw631_3)).trans hw631_3), ((HB.out.cell (World.block_lt_of_cell? w _ hw631_4)).trans hw631_4), ((HB.out.cell (World.block_lt_of_cell? w _ hw631_5)).trans hw631_5), ((HB.out.cell (World.block_lt_of_cell? w _ hw631_6)).trans hw631_6), ((HB.out.cell (World.block_lt_of_cell? w _ hw631_7)).trans hw631_7), ((HB.out.cell (World.block_lt_of_cell? w _ hw631_8)).trans hw631_8), ((HB.out.cell (World.block_lt_of_cell? w _ hw631_9)).trans hw631_9), ((HB.out.cell (World.block_lt_of_cell? w _ hw631_10)).trans hw631_10), ((HB.out.cell (World.block_lt_of_cell? w _ hw631_11)).trans hw631_11), ((HB.out.cell (World.block_lt_of_cell? w _ hw632_0)).trans hw632_0), ((HB.out.cell (World.block_lt_of_cell? w _ hw632_1)).trans hw632_1), ((HB.out.cell (World.block_lt_of_cell? w _ hw632_2)).trans hw632_2), ((HB.out.cell (World.block_lt_of_cell? w _ hw632_3)).trans hw632_3), ((HB.out.cell (World.block_lt_of_cell? w _ hw632_4)).trans hw632_4), ((HB.out.cell (World.block_lt_of_cell? w _ hw632_5)).trans hw632_5), ((HB.out.cell (World.block_lt_of_cell? w _ hw632_6)).trans hw632_6), ((HB.out.cell (World.block_lt_of_cell? w _ hw632_7)).trans hw632_7), ((HB.out.cell (World.block_lt_of_cell? w _ hw632_8)).trans hw632_8), ((HB.out.cell (World.block_lt_of_cell? w _ hw632_9)).trans hw632_9), ((HB.out.cell (World.block_lt_of_cell? w _ hw632_10)).trans hw632_10), ((HB.out.cell (World.block_lt_of_cell? w _ hw632_11)).trans hw632_11)⟩ (fun hHeld => ?_); refine with_tabW prebendref13_Same.tab21 prebendref13_Same.bits21 (fun HT_ HW_ => ?_)
                   generalize wr.drew = w85 at BK623 BK624 HB HR631_11 HR632_11 hx631_0 hx631_1 hx631_10 hx631_11 hx631_2 hx631_3 hx631_4 hx631_5 hx631_6 hx631_7 hx631_8 hx631_9 hx632_0 hx632_1 hx632_10 hx632_11 hx632_2 hx632_3 hx632_4 hx632_5 hx632_6 hx632_7 hx632_8 hx632_9 hHeld ⊢
                   refine plan_ [(0, 135), (2, 137), (5, 140), (7, 142)] ?_
                   iterate 4 (refine planP_ (v := ?_) (a' := ?_) rfl rfl (any_of HT_.out (by kernel_rfl)) (fun _ _ _ h => h) (Or.inl ⟨by rfl, ?_⟩) ?_ ?_; rotate_left; (intro w'; go_simp; with_reducible rfl); rotate_left; (simp only [Act.put, List.setIfInBounds_toArray, List.set_cons_zero, List.set_cons_succ, i64_w, i32_w]; rfl))
                   refine planEnd_ ?_
                   refine plan_ [(1, 136)] ?_
                   refine planT_ (v := ?_) (a' := ?_) rfl rfl (take_ofW HT_.out HW_.out (by kernel_rfl)) (fun _ _ _ h => h) (Or.inl ⟨by rfl, ?_⟩) hHeld ?_ ?_; rotate_left; (rintro w' ⟨s0, s1, s2, s3, s4, s5, s6, s7, s8, s9, s10, s11, s12, s13, s14, s15, s16, s17, s18, s19, s20, s21, s22, s23, s24, s25, s26, s27, s28, s29, s30, s31, s32, s33, s34, s35, s36, s37, s38, s39⟩; go_simp; with_reducible rfl); rotate_left; (simp only [Act.put, List.setIfInBounds_toArray, List.set_cons_zero, List.set_cons_succ, i64_w, i32_w]; rfl)
                   refine planEnd_ ?_
                   refine plan_ [(3, 138)] ?_
                   refine planP_ (v := ?_) (a' := ?_) rfl rfl (any_of HT_.out (by kernel_rfl)) (fun _ _ _ h => h) (Or.inl ⟨by rfl, ?_⟩) ?_ ?_; rotate_left; (intro w'; go_simp; with_reducible rfl); rotate_left; (simp only [Act.put, List.setIfInBounds_toArray, List.set_cons_zero, List.set_cons_succ, i64_w, i32_w]; rfl)
                   refine planEnd_ ?_
                   refine plan_ [(4, 139), (6, 141)] ?_
                   iterate 2 (refine planT_ (v := ?_) (a' := ?_) rfl rfl (take_ofW HT_.out HW_.out (by kernel_rfl)) (fun _ _ _ h => h) (Or.inl ⟨by rfl, ?_⟩) hHeld ?_ ?_; rotate_left; (rintro w' ⟨s0, s1, s2, s3, s4, s5, s6, s7, s8, s9, s10, s11, s12, s13, s14, s15, s16, s17, s18, s19, s20, s21, s22, s23, s24, s25, s26, s27, s28, s29, s30, s31, s32, s33, s34, s35, s36, s37, s38, s39⟩; go_simp; with_reducible rfl); rotate_left; (simp only [Act.put, List.setIfInBounds_toArray, List.set_cons_zero, List.set_cons_succ, i64_w, i32_w]; rfl))
                   refine planEnd_ ?_
                   refine plan_ [(8, 143)] ?_
                   refine planP_ (v := ?_) (a' := ?_) rfl rfl (any_of HT_.out (by kernel_rfl)) (fun _ _ _ h => h) (Or.inl ⟨by rfl, ?_⟩) ?_ ?_; rotate_left; (intro w'; go_simp; with_reducible rfl); rotate_left; (simp only [Act.put, List.setIfInBounds_toArray, List.set_cons_zero, List.set_cons_succ, i64_w, i32_w]; rfl)
                   refine planEnd_ ?_
                   refine plan_ [(9, 144)] ?_
                   refine planT_ (v := ?_) (a' := ?_) rfl rfl (take_ofW HT_.out HW_.out (by kernel_rfl)) (fun _ _ _ h => h) (Or.inl ⟨by rfl, ?_⟩) hHeld ?_ ?_; rotate_left; (rintro w' ⟨s0, s1, s2, s3, s4, s5, s6, s7, s8, s9, s10, s11, s12, s13, s14, s15, s16, s17, s18, s19, s20, s21, s22, s23, s24, s25, s26, s27, s28, s29, s30, s31, s32, s33, s34, s35, s36, s37, s38, s39⟩; go_simp; with_reducible rfl); rotate_left; (simp only [Act.put, List.setIfInBounds_toArray, List.set_cons_zero, List.set_cons_succ, i64_w, i32_w]; rfl)
                   refine planEnd_ ?_
                   refine one_ (i := 10) (N := some 145) #[true, true, true, true, true, true, true, true, true, true, true, false] rfl rfl (one_of HT_.out (by kernel_rfl)) (by decide) (fun K hK => ?_)
                   refine goes_ Try.func66 (by kernel_rfl) rfl #[.agg #[.int .i64 ((rd_T100 l0_6 x8_5).f0), .int .i64 ((rd_T100 l0_6 x8_5).f1), .int .i64 ((rd_T100 l0_6 x8_5).f2), .int .i64 ((rd_T100 l0_6 x8_5).f3), .int .i64 ((rd_T100 l0_6 x8_5).f4), .int .i64 ((rd_T100 l0_6 x8_5).f5), .int .i64 ((rd_T100 l0_6 x8_5).f6), .int .i64 ((rd_T100 l0_6 x8_5).f7), .int .i64 ((rd_T100 l0_6 x8_5).f8), .int .i64 ((rd_T100 l0_6 x8_5).f9), .int .i64 ((rd_T100 l0_6 x8_5).f10), .slice A631_11 ((rd_T100 l0_6 x8_5).f11).length c631_11], .agg #[.int .i64 ((rd_T100 l1_6 x8_5).f0), .int .i64 ((rd_T100 l1_6 x8_5).f1), .int .i64 ((rd_T100 l1_6 x8_5).f2), .int .i64 ((rd_T100 l1_6 x8_5).f3), .int .i64 ((rd_T100 l1_6 x8_5).f4), .int .i64 ((rd_T100 l1_6 x8_5).f5), .int .i64 ((rd_T100 l1_6 x8_5).f6), .int .i64 ((rd_T100 l1_6 x8_5).f7), .int .i64 ((rd_T100 l1_6 x8_5).f8), .int .i64 ((rd_T100 l1_6 x8_5).f9), .int .i64 ((rd_T100 l1_6 x8_5).f10), .slice A632_11 ((rd_T100 l1_6 x8_5).f11).length c632_11]] (by rfl) rfl rfl mt ?_
                   with_reducible refine (prebendref13_SameJob.calls k5 ((rd_T100 l0_6 x8_5).f0) ((rd_T100 l0_6 x8_5).f1) ((rd_T100 l0_6 x8_5).f2) ((rd_T100 l0_6 x8_5).f3) ((rd_T100 l0_6 x8_5).f4) ((rd_T100 l0_6 x8_5).f5) ((rd_T100 l0_6 x8_5).f6) ((rd_T100 l0_6 x8_5).f7) ((rd_T100 l0_6 x8_5).f8) ((rd_T100 l0_6 x8_5).f9) ((rd_T100 l0_6 x8_5).f10) _ _ ((rd_T100 l0_6 x8_5).f11) ((rd_T100 l1_6 x8_5).f0) ((rd_T100 l1_6 x8_5).f1) ((rd_T100 l1_6 x8_5).f2) ((rd_T100 l1_6 x8_5).f3) ((rd_T100 l1_6 x8_5).f4) ((rd_T100 l1_6 x8_5).f5) ((rd_T100 l1_6 x8_5).f6) ((rd_T100 l1_6 x8_5).f7) ((rd_T100 l1_6 x8_5).f8) ((rd_T100 l1_6 x8_5).f9) ((rd_T100 l1_6 x8_5).f10) _ _ ((rd_T100 l1_6 x8_5).f11) false _ ?side1 ?side2 ?side3 ?side4 A77.out).mono ?_
                   (case side1 => repeat (first | exact (Kd.C_below HR631_11.out HB.out) | (with_reducible refine Kd.C_alloc ?_ _) | (with_reducible refine Kd.C_drewN ?_ _) | (with_reducible refine Kd.C_drew ?_)))
                   (case side2 => exact HC631_11.out)
                   (case side3 => repeat (first | exact (Kd.C_below HR632_11.out HB.out) | (with_reducible refine Kd.C_alloc ?_ _) | (with_reducible refine Kd.C_drewN ?_ _) | (with_reducible refine Kd.C_drew ?_)))
                   (case side4 => exact HC632_11.out)
                   rintro e w86 ⟨rfl, hb⟩
                   refine ⟨_, rfl, ?_⟩
                   have n0_ := Aside0.mk (blk_below (g := gb623) (o := .cells #[.int .i64 a0_0, .int .i64 a0_1, .int .i64 a0_2, .slice A0_3 l0_3.length c0_3, .slice A0_4 l0_4.length c0_4, .slice A0_5 l0_5.length c0_5, .slice (some ad631) l0_6.length c0_6, .slice A0_7 l0_7.length c0_7] 67 (0, 0)) (mBK BK623.out) hb)
                   have n1_ := Aside0.mk (blk_below (g := gb624) (o := .cells #[.int .i64 a1_0, .int .i64 a1_1, .int .i64 a1_2, .slice A1_3 l1_3.length c1_3, .slice A1_4 l1_4.length c1_4, .slice A1_5 l1_5.length c1_5, .slice (some ad632) l1_6.length c1_6, .slice A1_7 l1_7.length c1_7] 67 (0, 0)) (mBK BK624.out) hb)
                   have n2_ := Aside0.mk (below_step (mBs HB.out) hb)
                   clear BK623 BK624 HB
                   have BK623 := n0_
                   have BK624 := n1_
                   have HB := n2_
                   clear n0_ n1_ n2_
                   clear hb
                   refine hK.out _ _ ⟨(blk_cell BK623.out 0).trans rfl, (blk_cell BK623.out 1).trans rfl, (blk_cell BK623.out 2).trans rfl, (blk_cell BK623.out 3).trans rfl, (blk_cell BK623.out 4).trans rfl, (blk_cell BK623.out 5).trans rfl, (blk_cell BK623.out 6).trans rfl, (blk_cell BK623.out 7).trans rfl, (blk_cell BK624.out 0).trans rfl, (blk_cell BK624.out 1).trans rfl, (blk_cell BK624.out 2).trans rfl, (blk_cell BK624.out 3).trans rfl, (blk_cell BK624.out 4).trans rfl, (blk_cell BK624.out 5).trans rfl, (blk_cell BK624.out 6).trans rfl, (blk_cell BK624.out 7).trans rfl, ((HB.out.cell (World.block_lt_of_cell? w _ hw631_0)).trans hw631_0), ((HB.out.cell (World.block_lt_of_cell? w _ hw631_1)).trans hw631_1), ((HB.out.cell (World.block_lt_of_cell? w _ hw631_2)).trans hw631_2), ((HB.out.cell (World.block_lt_of_cell? w _ hw631_3)).trans hw631_3), ((HB.out.cell (World.block_lt_of_cell? w _ hw631_4)).trans hw631_4), ((HB.out.cell (World.block_lt_of_cell? w _ hw631_5)).trans hw631_5), ((HB.out.cell (World.block_lt_of_cell? w _ hw631_6)).trans hw631_6), ((HB.out.cell (World.block_lt_of_cell? w _ hw631_7)).trans hw631_7), ((HB.out.cell (World.block_lt_of_cell? w _ hw631_8)).trans hw631_8), ((HB.out.cell (World.block_lt_of_cell? w _ hw631_9)).trans hw631_9), ((HB.out.cell (World.block_lt_of_cell? w _ hw631_10)).trans hw631_10), ((HB.out.cell (World.block_lt_of_cell? w _ hw631_11)).trans hw631_11), ((HB.out.cell (World.block_lt_of_cell? w _ hw632_0)).trans hw632_0), ((HB.out.cell (World.block_lt_of_cell? w _ hw632_1)).trans hw632_1), ((HB.out.cell (World.block_lt_of_cell? w _ hw632_2)).trans hw632_2), ((HB.out.cell (World.block_lt_of_cell? w _ hw632_3)).trans hw632_3), ((HB.out.cell (World.block_lt_of_cell? w _ hw632_4)).trans hw632_4), ((HB.out.cell (World.block_lt_of_cell? w _ hw632_5)).trans hw632_5), ((HB.out.cell (World.block_lt_of_cell? w _ hw632_6)).trans hw632_6), ((HB.out.cell (World.block_lt_of_cell? w _ hw632_7)).trans hw632_7), ((HB.out.cell (World.block_lt_of_cell? w _ hw632_8)).trans hw632_8), ((HB.out.cell (World.block_lt_of_cell? w _ hw632_9)).trans hw632_9), ((HB.out.cell (World.block_lt_of_cell? w _ hw632_10)).trans hw632_10), ((HB.out.cell (World.block_lt_of_cell? w _ hw632_11)).trans hw632_11)⟩ (fun hHeld => ?_)
                   clear hK K
                   refine norm_ (a' := ?_) ?_ ?_
                   rotate_left
                   ·show Act.put _ (some 145) _ = _
                    simp only [Act.put, List.setIfInBounds_toArray, List.set_cons_zero, List.set_cons_succ, i64_w, i32_w]
                    rfl
                   refine plan_ [(11, 146)] ?_
                   refine planP_ (v := ?_) (a' := ?_) rfl rfl (any_of HT_.out (by kernel_rfl)) (fun _ _ _ h => h) (Or.inl ⟨by rfl, ?_⟩) ?_ ?_; rotate_left; (intro w'; go_simp; with_reducible rfl); rotate_left; (simp only [Act.put, List.setIfInBounds_toArray, List.set_cons_zero, List.set_cons_succ, i64_w, i32_w]; rfl)
                   refine planEnd_ ?_
                   refine done_ (done_of HT_.out (by kernel_rfl)) ?_
                   try go_wp2
                   go_ret
                   exact ⟨by first | rfl | (simp [errW_none, errW_some] <;> rfl) | (simp [*, errW_none, errW_some] <;> rfl), by repeat (first | (with_reducible first | exact HB.out | apply below_alloc | apply pw_below_drewN | apply below_drew1 | refine below_set ?_ GE623.out | refine below_set ?_ GE624.out) | exact HB.out)⟩
                 ·rw [if_neg c76] at H
                  exact absurd H (by simp)
                ·rw [if_neg c75] at H
                 exact absurd H (by simp)
               ·rw [if_neg c74] at H
                have c74b0 : decide (x8_5 < (l0_6.length : Int)) = false := decide_eq_false c74
                clear c74
                have H' := Aside0.mk H
                clear H
                have hnb87 := NB623_624.out
                have hnc87 := NB624_623.out
                have hcz88_0 : wr.cell? ⟨gb623, 0, none⟩ = some (.int .i64 a0_0) := (blk_cell BK623.out 0).trans rfl
                have hcz88_1 : wr.cell? ⟨gb623, 1, none⟩ = some (.int .i64 a0_1) := (blk_cell BK623.out 1).trans rfl
                have hcz88_2 : wr.cell? ⟨gb623, 2, none⟩ = some (.int .i64 a0_2) := (blk_cell BK623.out 2).trans rfl
                have hcz88_3 : wr.cell? ⟨gb623, 3, none⟩ = some (.slice A0_3 l0_3.length c0_3) := (blk_cell BK623.out 3).trans rfl
                have hcz88_4 : wr.cell? ⟨gb623, 4, none⟩ = some (.slice A0_4 l0_4.length c0_4) := (blk_cell BK623.out 4).trans rfl
                have hcz88_5 : wr.cell? ⟨gb623, 5, none⟩ = some (.slice A0_5 l0_5.length c0_5) := (blk_cell BK623.out 5).trans rfl
                have hcz88_6 : wr.cell? ⟨gb623, 6, none⟩ = some (.slice A0_6 l0_6.length c0_6) := (blk_cell BK623.out 6).trans rfl
                have hcz88_7 : wr.cell? ⟨gb623, 7, none⟩ = some (.slice A0_7 l0_7.length c0_7) := (blk_cell BK623.out 7).trans rfl
                have hfz88_0 := blk_frozen BK623.out 0
                have hfz88_1 := blk_frozen BK623.out 1
                have hfz88_2 := blk_frozen BK623.out 2
                have hfz88_3 := blk_frozen BK623.out 3
                have hfz88_4 := blk_frozen BK623.out 4
                have hfz88_5 := blk_frozen BK623.out 5
                have hfz88_6 := blk_frozen BK623.out 6
                have hfz88_7 := blk_frozen BK623.out 7
                go_wp2
                go_loopg [9] k5 (fun kq v9 w' => ∃ (x9_6 : Int), v9 = .int .i64 x9_6 ∧ Aside0 (prebendref13_Same.l4 kq x9_6 a0_0 a0_1 a0_2 l0_3 l0_4 l0_5 l0_6 l0_7 a1_0 a1_1 a1_2 l1_3 l1_4 l1_5 l1_6 l1_7 = some r) ∧ Aside0 (kq ≤ k5) ∧ Aside0 (w'.heap[gb623]? = some (.cells #[.int .i64 a0_0, .int .i64 a0_1, .int .i64 a0_2, (.slice A0_3 l0_3.length c0_3), (.slice A0_4 l0_4.length c0_4), (.slice A0_5 l0_5.length c0_5), (.slice A0_6 l0_6.length c0_6), (.slice A0_7 l0_7.length c0_7)] 67 (0, 0))) ∧ Aside0 (w'.heap[gb624]? = some (.cells #[.int .i64 a1_0, .int .i64 a1_1, .int .i64 a1_2, (.slice A1_3 l1_3.length c1_3), (.slice A1_4 l1_4.length c1_4), (.slice A1_5 l1_5.length c1_5), (.slice A1_6 l1_6.length c1_6), (.slice A1_7 l1_7.length c1_7)] 67 (0, 0))) ∧ Aside0 (Below w.heap.size w w'))
                case atStart => exact ⟨(0), ez, H', ⟨Nat.le_refl _⟩, ⟨mBK BK623.out⟩, ⟨mBK BK624.out⟩, ⟨mBs HB.out⟩⟩
                case round =>
                 clear H'
                 clear c74b0 hcz88_0 hcz88_1 hcz88_2 hcz88_3 hcz88_4 hcz88_5 hcz88_6 hcz88_7 hfz88_0 hfz88_1 hfz88_2 hfz88_3 hfz88_4 hfz88_5 hfz88_6 hfz88_7
                 obtain ⟨x9_6, rfl, HA, HK6, BK623, BK624, HB⟩ := hrel
                 cases gk with
                 | zero => exact absurd HA.out (by simp [prebendref13_Same.l4])
                 | succ k6 =>
                  have H := HA.out
                  clear HA
                  simp only [prebendref13_Same.l4] at H
                  by_cases c89 : x9_6 < (l0_7.length : Int)
                  ·rw [if_pos c89] at H
                   have c89b0 : decide (x9_6 < (l0_7.length : Int)) = true := decide_eq_true c89
                   clear c89
                   by_cases c90 : 0 ≤ x9_6
                   ·rw [if_pos c90] at H
                    have c90b0 : decide (0 ≤ x9_6) = true := decide_eq_true c90
                    clear c90
                    by_cases c91 : x9_6 < (l1_7.length : Int)
                    ·rw [if_pos c91] at H
                     have c91b0 : decide (x9_6 < (l1_7.length : Int)) = true := decide_eq_true c91
                     clear c91
                     by_cases c92 : (rdOf ByteArray.empty l0_7 x9_6).toList = (rdOf ByteArray.empty l1_7 x9_6).toList
                     ·rw [if_pos c92] at H
                      have c92b0 : ((rdOf ByteArray.empty l0_7 x9_6).toList == (rdOf ByteArray.empty l1_7 x9_6).toList) = true := beq_iff_eq.mpr c92
                      have c92b1 : ((rdOf ByteArray.empty l0_7 x9_6).toList != (rdOf ByteArray.empty l1_7 x9_6).toList) = false := bne_eq_false_iff_eq.mpr c92
                      clear c92
                      have H' := Aside0.mk H
                      clear H
                      have hnb93 := NB623_624.out
                      have hnc93 := NB624_623.out
                      have hcz94_0 : wr.cell? ⟨gb623, 0, none⟩ = some (.int .i64 a0_0) := (blk_cell BK623.out 0).trans rfl
                      have hcz94_1 : wr.cell? ⟨gb623, 1, none⟩ = some (.int .i64 a0_1) := (blk_cell BK623.out 1).trans rfl
                      have hcz94_2 : wr.cell? ⟨gb623, 2, none⟩ = some (.int .i64 a0_2) := (blk_cell BK623.out 2).trans rfl
                      have hcz94_3 : wr.cell? ⟨gb623, 3, none⟩ = some (.slice A0_3 l0_3.length c0_3) := (blk_cell BK623.out 3).trans rfl
                      have hcz94_4 : wr.cell? ⟨gb623, 4, none⟩ = some (.slice A0_4 l0_4.length c0_4) := (blk_cell BK623.out 4).trans rfl
                      have hcz94_5 : wr.cell? ⟨gb623, 5, none⟩ = some (.slice A0_5 l0_5.length c0_5) := (blk_cell BK623.out 5).trans rfl
                      have hcz94_6 : wr.cell? ⟨gb623, 6, none⟩ = some (.slice A0_6 l0_6.length c0_6) := (blk_cell BK623.out 6).trans rfl
                      have hcz94_7 : wr.cell? ⟨gb623, 7, none⟩ = some (.slice A0_7 l0_7.length c0_7) := (blk_cell BK623.out 7).trans rfl
                      have hfz94_0 := blk_frozen BK623.out 0
                      have hfz94_1 := blk_frozen BK623.out 1
                      have hfz94_2 := blk_frozen BK623.out 2
                      have hfz94_3 := blk_frozen BK623.out 3
                      have hfz94_4 := blk_frozen BK623.out 4
                      have hfz94_5 := blk_frozen BK623.out 5
                      have hfz94_6 := blk_frozen BK623.out 6
                      have hfz94_7 := blk_frozen BK623.out 7
                      try go_wp2
                      have n0_ := Aside0.mk (blk_drew BK623.out)
                      have n1_ := Aside0.mk (blk_drew BK624.out)
                      have n2_ := Aside0.mk (below_drew1 HB.out)
                      clear BK623 BK624 HB
                      have BK623 := n0_
                      have BK624 := n1_
                      have HB := n2_
                      clear n0_ n1_ n2_
                      have p634 : 0 ≤ (x9_6 : Int) := oda
                      have q634 : x9_6 < (l0_7.length : Int) := oda
                      obtain ⟨ad634, e634, hx634_0⟩ := Kd.at_string HR0_7.out x9_6 p634 q634
                      have hw634_0 := hx634_0
                      cases e634
                      replace hx634_0 := (HB.out.cell (World.block_lt_of_cell? w _ hx634_0)).trans hx634_0
                      replace p634 := eq_true p634
                      replace q634 := eq_true q634
                      have p635 : 0 ≤ (x9_6 : Int) := oda
                      have q635 : x9_6 < (l1_7.length : Int) := oda
                      obtain ⟨ad635, e635, hx635_0⟩ := Kd.at_string HR1_7.out x9_6 p635 q635
                      have hw635_0 := hx635_0
                      cases e635
                      replace hx635_0 := (HB.out.cell (World.block_lt_of_cell? w _ hx635_0)).trans hx635_0
                      replace p635 := eq_true p635
                      replace q635 := eq_true q635
                      refine start_ (n := 11) (S := fun w' => w'.cell? ⟨gb623, 0, none⟩ = some (.int .i64 a0_0) ∧ w'.cell? ⟨gb623, 1, none⟩ = some (.int .i64 a0_1) ∧ w'.cell? ⟨gb623, 2, none⟩ = some (.int .i64 a0_2) ∧ w'.cell? ⟨gb623, 3, none⟩ = some (.slice A0_3 l0_3.length c0_3) ∧ w'.cell? ⟨gb623, 4, none⟩ = some (.slice A0_4 l0_4.length c0_4) ∧ w'.cell? ⟨gb623, 5, none⟩ = some (.slice A0_5 l0_5.length c0_5) ∧ w'.cell? ⟨gb623, 6, none⟩ = some (.slice A0_6 l0_6.length c0_6) ∧ w'.cell? ⟨gb623, 7, none⟩ = some (.slice (some ad634) l0_7.length c0_7) ∧ w'.cell? ⟨gb624, 0, none⟩ = some (.int .i64 a1_0) ∧ w'.cell? ⟨gb624, 1, none⟩ = some (.int .i64 a1_1) ∧ w'.cell? ⟨gb624, 2, none⟩ = some (.int .i64 a1_2) ∧ w'.cell? ⟨gb624, 3, none⟩ = some (.slice A1_3 l1_3.length c1_3) ∧ w'.cell? ⟨gb624, 4, none⟩ = some (.slice A1_4 l1_4.length c1_4) ∧ w'.cell? ⟨gb624, 5, none⟩ = some (.slice A1_5 l1_5.length c1_5) ∧ w'.cell? ⟨gb624, 6, none⟩ = some (.slice A1_6 l1_6.length c1_6) ∧ w'.cell? ⟨gb624, 7, none⟩ = some (.slice (some ad635) l1_7.length c1_7) ∧ w'.cell? (ad634.add (x9_6).toNat) = some (.string (rdOf ByteArray.empty l0_7 x9_6)) ∧ w'.cell? (ad635.add (x9_6).toNat) = some (.string (rdOf ByteArray.empty l1_7 x9_6))) (ds := []) #[false, false, false, false, false, false, false, false, false, false, false] (by kernel_rfl) rfl rfl ⟨(blk_cell BK623.out 0).trans rfl, (blk_cell BK623.out 1).trans rfl, (blk_cell BK623.out 2).trans rfl, (blk_cell BK623.out 3).trans rfl, (blk_cell BK623.out 4).trans rfl, (blk_cell BK623.out 5).trans rfl, (blk_cell BK623.out 6).trans rfl, (blk_cell BK623.out 7).trans rfl, (blk_cell BK624.out 0).trans rfl, (blk_cell BK624.out 1).trans rfl, (blk_cell BK624.out 2).trans rfl, (blk_cell BK624.out 3).trans rfl, (blk_cell BK624.out 4).trans rfl, (blk_cell BK624.out 5).trans rfl, (blk_cell BK624.out 6).trans rfl, (blk_cell BK624.out 7).trans rfl, ((HB.out.cell (World.block_lt_of_cell? w _ hw634_0)).trans hw634_0), ((HB.out.cell (World.block_lt_of_cell? w _ hw635_0)).trans hw635_0)⟩ (fun hHeld => ?_); refine with_tabW prebendref13_Same.tab26 prebendref13_Same.bits26 (fun HT_ HW_ => ?_)
                      generalize wr.drew = w95 at BK623 BK624 HB hx634_0 hx635_0 hHeld ⊢
                      refine plan_ [(0, 154), (2, 156), (5, 159), (7, 161)] ?_
                      iterate 4 (refine planP_ (v := ?_) (a' := ?_) rfl rfl (any_of HT_.out (by kernel_rfl)) (fun _ _ _ h => h) (Or.inl ⟨by rfl, ?_⟩) ?_ ?_; rotate_left; (intro w'; go_simp; with_reducible rfl); rotate_left; (simp only [Act.put, List.setIfInBounds_toArray, List.set_cons_zero, List.set_cons_succ, i64_w, i32_w]; rfl))
                      refine planEnd_ ?_
                      refine plan_ [(1, 155)] ?_
                      refine planT_ (v := ?_) (a' := ?_) rfl rfl (take_ofW HT_.out HW_.out (by kernel_rfl)) (fun _ _ _ h => h) (Or.inl ⟨by rfl, ?_⟩) hHeld ?_ ?_; rotate_left; (rintro w' ⟨s0, s1, s2, s3, s4, s5, s6, s7, s8, s9, s10, s11, s12, s13, s14, s15, s16, s17⟩; go_simp; with_reducible rfl); rotate_left; (simp only [Act.put, List.setIfInBounds_toArray, List.set_cons_zero, List.set_cons_succ, i64_w, i32_w]; rfl)
                      refine planEnd_ ?_
                      refine plan_ [(3, 157)] ?_
                      refine planP_ (v := ?_) (a' := ?_) rfl rfl (any_of HT_.out (by kernel_rfl)) (fun _ _ _ h => h) (Or.inl ⟨by rfl, ?_⟩) ?_ ?_; rotate_left; (intro w'; go_simp; with_reducible rfl); rotate_left; (simp only [Act.put, List.setIfInBounds_toArray, List.set_cons_zero, List.set_cons_succ, i64_w, i32_w]; rfl)
                      refine planEnd_ ?_
                      refine plan_ [(4, 158), (6, 160)] ?_
                      iterate 2 (refine planT_ (v := ?_) (a' := ?_) rfl rfl (take_ofW HT_.out HW_.out (by kernel_rfl)) (fun _ _ _ h => h) (Or.inl ⟨by rfl, ?_⟩) hHeld ?_ ?_; rotate_left; (rintro w' ⟨s0, s1, s2, s3, s4, s5, s6, s7, s8, s9, s10, s11, s12, s13, s14, s15, s16, s17⟩; go_simp; with_reducible rfl); rotate_left; (simp only [Act.put, List.setIfInBounds_toArray, List.set_cons_zero, List.set_cons_succ, i64_w, i32_w]; rfl))
                      refine planEnd_ ?_
                      refine plan_ [(8, 162)] ?_
                      refine planP_ (v := ?_) (a' := ?_) rfl rfl (any_of HT_.out (by kernel_rfl)) (fun _ _ _ h => h) (Or.inl ⟨by rfl, ?_⟩) ?_ ?_; rotate_left; (intro w'; go_simp; with_reducible rfl); rotate_left; (simp only [Act.put, List.setIfInBounds_toArray, List.set_cons_zero, List.set_cons_succ, i64_w, i32_w]; rfl)
                      refine planEnd_ ?_
                      refine plan_ [(9, 163)] ?_
                      refine planT_ (v := ?_) (a' := ?_) rfl rfl (take_ofW HT_.out HW_.out (by kernel_rfl)) (fun _ _ _ h => h) (Or.inl ⟨by rfl, ?_⟩) hHeld ?_ ?_; rotate_left; (rintro w' ⟨s0, s1, s2, s3, s4, s5, s6, s7, s8, s9, s10, s11, s12, s13, s14, s15, s16, s17⟩; go_simp; with_reducible rfl); rotate_left; (simp only [Act.put, List.setIfInBounds_toArray, List.set_cons_zero, List.set_cons_succ, i64_w, i32_w]; rfl)
                      refine planEnd_ ?_
                      refine plan_ [(10, 164)] ?_
                      refine planP_ (v := ?_) (a' := ?_) rfl rfl (any_of HT_.out (by kernel_rfl)) (fun _ _ _ h => h) (Or.inl ⟨by rfl, ?_⟩) ?_ ?_; rotate_left; (intro w'; go_simp; with_reducible rfl); rotate_left; (simp only [Act.put, List.setIfInBounds_toArray, List.set_cons_zero, List.set_cons_succ, i64_w, i32_w]; rfl)
                      refine planEnd_ ?_
                      refine done_ (done_of HT_.out (by kernel_rfl)) ?_
                      try go_wp2
                      go_roundg k6
                      case measure => have := HJ2.out; have := HK2.out; have := HK3.out; have := HK4.out; have := HK5.out; have := HK6.out; omega
                      case rel => exact ⟨(wrap64 (x9_6 + 1)), ez, H', ⟨by have := HJ2.out; have := HK2.out; have := HK3.out; have := HK4.out; have := HK5.out; have := HK6.out; omega⟩, ⟨mBK BK623.out⟩, ⟨mBK BK624.out⟩, ⟨mBs HB.out⟩⟩
                     ·rw [if_neg c92] at H
                      have c92b0 : ((rdOf ByteArray.empty l0_7 x9_6).toList == (rdOf ByteArray.empty l1_7 x9_6).toList) = false := beq_eq_false_iff_ne.mpr c92
                      have c92b1 : ((rdOf ByteArray.empty l0_7 x9_6).toList != (rdOf ByteArray.empty l1_7 x9_6).toList) = true := bne_iff_ne.mpr c92
                      obtain rfl := Option.some.inj H
                      have hnb96 := NB623_624.out
                      have hnc96 := NB624_623.out
                      have hcz97_0 : wr.cell? ⟨gb623, 0, none⟩ = some (.int .i64 a0_0) := (blk_cell BK623.out 0).trans rfl
                      have hcz97_1 : wr.cell? ⟨gb623, 1, none⟩ = some (.int .i64 a0_1) := (blk_cell BK623.out 1).trans rfl
                      have hcz97_2 : wr.cell? ⟨gb623, 2, none⟩ = some (.int .i64 a0_2) := (blk_cell BK623.out 2).trans rfl
                      have hcz97_3 : wr.cell? ⟨gb623, 3, none⟩ = some (.slice A0_3 l0_3.length c0_3) := (blk_cell BK623.out 3).trans rfl
                      have hcz97_4 : wr.cell? ⟨gb623, 4, none⟩ = some (.slice A0_4 l0_4.length c0_4) := (blk_cell BK623.out 4).trans rfl
                      have hcz97_5 : wr.cell? ⟨gb623, 5, none⟩ = some (.slice A0_5 l0_5.length c0_5) := (blk_cell BK623.out 5).trans rfl
                      have hcz97_6 : wr.cell? ⟨gb623, 6, none⟩ = some (.slice A0_6 l0_6.length c0_6) := (blk_cell BK623.out 6).trans rfl
                      have hcz97_7 : wr.cell? ⟨gb623, 7, none⟩ = some (.slice A0_7 l0_7.length c0_7) := (blk_cell BK623.out 7).trans rfl
                      have hfz97_0 := blk_frozen BK623.out 0
                      have hfz97_1 := blk_frozen BK623.out 1
                      have hfz97_2 := blk_frozen BK623.out 2
                      have hfz97_3 := blk_frozen BK623.out 3
                      have hfz97_4 := blk_frozen BK623.out 4
                      have hfz97_5 := blk_frozen BK623.out 5
                      have hfz97_6 := blk_frozen BK623.out 6
                      have hfz97_7 := blk_frozen BK623.out 7
                      try go_wp2
                      have n0_ := Aside0.mk (blk_drew BK623.out)
                      have n1_ := Aside0.mk (blk_drew BK624.out)
                      have n2_ := Aside0.mk (below_drew1 HB.out)
                      clear BK623 BK624 HB
                      have BK623 := n0_
                      have BK624 := n1_
                      have HB := n2_
                      clear n0_ n1_ n2_
                      have p634 : 0 ≤ (x9_6 : Int) := oda
                      have q634 : x9_6 < (l0_7.length : Int) := oda
                      obtain ⟨ad634, e634, hx634_0⟩ := Kd.at_string HR0_7.out x9_6 p634 q634
                      have hw634_0 := hx634_0
                      cases e634
                      replace hx634_0 := (HB.out.cell (World.block_lt_of_cell? w _ hx634_0)).trans hx634_0
                      replace p634 := eq_true p634
                      replace q634 := eq_true q634
                      have p635 : 0 ≤ (x9_6 : Int) := oda
                      have q635 : x9_6 < (l1_7.length : Int) := oda
                      obtain ⟨ad635, e635, hx635_0⟩ := Kd.at_string HR1_7.out x9_6 p635 q635
                      have hw635_0 := hx635_0
                      cases e635
                      replace hx635_0 := (HB.out.cell (World.block_lt_of_cell? w _ hx635_0)).trans hx635_0
                      replace p635 := eq_true p635
                      replace q635 := eq_true q635
                      refine start_ (n := 11) (S := fun w' => w'.cell? ⟨gb623, 0, none⟩ = some (.int .i64 a0_0) ∧ w'.cell? ⟨gb623, 1, none⟩ = some (.int .i64 a0_1) ∧ w'.cell? ⟨gb623, 2, none⟩ = some (.int .i64 a0_2) ∧ w'.cell? ⟨gb623, 3, none⟩ = some (.slice A0_3 l0_3.length c0_3) ∧ w'.cell? ⟨gb623, 4, none⟩ = some (.slice A0_4 l0_4.length c0_4) ∧ w'.cell? ⟨gb623, 5, none⟩ = some (.slice A0_5 l0_5.length c0_5) ∧ w'.cell? ⟨gb623, 6, none⟩ = some (.slice A0_6 l0_6.length c0_6) ∧ w'.cell? ⟨gb623, 7, none⟩ = some (.slice (some ad634) l0_7.length c0_7) ∧ w'.cell? ⟨gb624, 0, none⟩ = some (.int .i64 a1_0) ∧ w'.cell? ⟨gb624, 1, none⟩ = some (.int .i64 a1_1) ∧ w'.cell? ⟨gb624, 2, none⟩ = some (.int .i64 a1_2) ∧ w'.cell? ⟨gb624, 3, none⟩ = some (.slice A1_3 l1_3.length c1_3) ∧ w'.cell? ⟨gb624, 4, none⟩ = some (.slice A1_4 l1_4.length c1_4) ∧ w'.cell? ⟨gb624, 5, none⟩ = some (.slice A1_5 l1_5.length c1_5) ∧ w'.cell? ⟨gb624, 6, none⟩ = some (.slice A1_6 l1_6.length c1_6) ∧ w'.cell? ⟨gb624, 7, none⟩ = some (.slice (some ad635) l1_7.length c1_7) ∧ w'.cell? (ad634.add (x9_6).toNat) = some (.string (rdOf ByteArray.empty l0_7 x9_6)) ∧ w'.cell? (ad635.add (x9_6).toNat) = some (.string (rdOf ByteArray.empty l1_7 x9_6))) (ds := []) #[false, false, false, false, false, false, false, false, false, false, false] (by kernel_rfl) rfl rfl ⟨(blk_cell BK623.out 0).trans rfl, (blk_cell BK623.out 1).trans rfl, (blk_cell BK623.out 2).trans rfl, (blk_cell BK623.out 3).trans rfl, (blk_cell BK623.out 4).trans rfl, (blk_cell BK623.out 5).trans rfl, (blk_cell BK623.out 6).trans rfl, (blk_cell BK623.out 7).trans rfl, (blk_cell BK624.out 0).trans rfl, (blk_cell BK624.out 1).trans rfl, (blk_cell BK624.out 2).trans rfl, (blk_cell BK624.out 3).trans rfl, (blk_cell BK624.out 4).trans rfl, (blk_cell BK624.out 5).trans rfl, (blk_cell BK624.out 6).trans rfl, (blk_cell BK624.out 7).trans rfl, ((HB.out.cell (World.block_lt_of_cell? w _ hw634_0)).trans hw634_0), ((HB.out.cell (World.block_lt_of_cell? w _ hw635_0)).trans hw635_0)⟩ (fun hHeld => ?_); refine with_tabW prebendref13_Same.tab26 prebendref13_Same.bits26 (fun HT_ HW_ => ?_)
                      generalize wr.drew = w98 at BK623 BK624 HB hx634_0 hx635_0 hHeld ⊢
                      refine plan_ [(0, 154), (2, 156), (5, 159), (7, 161)] ?_
                      iterate 4 (refine planP_ (v := ?_) (a' := ?_) rfl rfl (any_of HT_.out (by kernel_rfl)) (fun _ _ _ h => h) (Or.inl ⟨by rfl, ?_⟩) ?_ ?_; rotate_left; (intro w'; go_simp; with_reducible rfl); rotate_left; (simp only [Act.put, List.setIfInBounds_toArray, List.set_cons_zero, List.set_cons_succ, i64_w, i32_w]; rfl))
                      refine planEnd_ ?_
                      refine plan_ [(1, 155)] ?_
                      refine planT_ (v := ?_) (a' := ?_) rfl rfl (take_ofW HT_.out HW_.out (by kernel_rfl)) (fun _ _ _ h => h) (Or.inl ⟨by rfl, ?_⟩) hHeld ?_ ?_; rotate_left; (rintro w' ⟨s0, s1, s2, s3, s4, s5, s6, s7, s8, s9, s10, s11, s12, s13, s14, s15, s16, s17⟩; go_simp; with_reducible rfl); rotate_left; (simp only [Act.put, List.setIfInBounds_toArray, List.set_cons_zero, List.set_cons_succ, i64_w, i32_w]; rfl)
                      refine planEnd_ ?_
                      refine plan_ [(3, 157)] ?_
                      refine planP_ (v := ?_) (a' := ?_) rfl rfl (any_of HT_.out (by kernel_rfl)) (fun _ _ _ h => h) (Or.inl ⟨by rfl, ?_⟩) ?_ ?_; rotate_left; (intro w'; go_simp; with_reducible rfl); rotate_left; (simp only [Act.put, List.setIfInBounds_toArray, List.set_cons_zero, List.set_cons_succ, i64_w, i32_w]; rfl)
                      refine planEnd_ ?_
                      refine plan_ [(4, 158), (6, 160)] ?_
                      iterate 2 (refine planT_ (v := ?_) (a' := ?_) rfl rfl (take_ofW HT_.out HW_.out (by kernel_rfl)) (fun _ _ _ h => h) (Or.inl ⟨by rfl, ?_⟩) hHeld ?_ ?_; rotate_left; (rintro w' ⟨s0, s1, s2, s3, s4, s5, s6, s7, s8, s9, s10, s11, s12, s13, s14, s15, s16, s17⟩; go_simp; with_reducible rfl); rotate_left; (simp only [Act.put, List.setIfInBounds_toArray, List.set_cons_zero, List.set_cons_succ, i64_w, i32_w]; rfl))
                      refine planEnd_ ?_
                      refine plan_ [(8, 162)] ?_
                      refine planP_ (v := ?_) (a' := ?_) rfl rfl (any_of HT_.out (by kernel_rfl)) (fun _ _ _ h => h) (Or.inl ⟨by rfl, ?_⟩) ?_ ?_; rotate_left; (intro w'; go_simp; with_reducible rfl); rotate_left; (simp only [Act.put, List.setIfInBounds_toArray, List.set_cons_zero, List.set_cons_succ, i64_w, i32_w]; rfl)
                      refine planEnd_ ?_
                      refine plan_ [(9, 163)] ?_
                      refine planT_ (v := ?_) (a' := ?_) rfl rfl (take_ofW HT_.out HW_.out (by kernel_rfl)) (fun _ _ _ h => h) (Or.inl ⟨by rfl, ?_⟩) hHeld ?_ ?_; rotate_left; (rintro w' ⟨s0, s1, s2, s3, s4, s5, s6, s7, s8, s9, s10, s11, s12, s13, s14, s15, s16, s17⟩; go_simp; with_reducible rfl); rotate_left; (simp only [Act.put, List.setIfInBounds_toArray, List.set_cons_zero, List.set_cons_succ, i64_w, i32_w]; rfl)
                      refine planEnd_ ?_
                      refine plan_ [(10, 164)] ?_
                      refine planP_ (v := ?_) (a' := ?_) rfl rfl (any_of HT_.out (by kernel_rfl)) (fun _ _ _ h => h) (Or.inl ⟨by rfl, ?_⟩) ?_ ?_; rotate_left; (intro w'; go_simp; with_reducible rfl); rotate_left; (simp only [Act.put, List.setIfInBounds_toArray, List.set_cons_zero, List.set_cons_succ, i64_w, i32_w]; rfl)
                      refine planEnd_ ?_
                      refine done_ (done_of HT_.out (by kernel_rfl)) ?_
                      try go_wp2
                      go_ret
                      exact ⟨by first | rfl | (simp [errW_none, errW_some] <;> rfl) | (simp [*, errW_none, errW_some] <;> rfl), by repeat (first | (with_reducible first | exact HB.out | apply below_alloc | apply pw_below_drewN | apply below_drew1 | refine below_set ?_ GE623.out | refine below_set ?_ GE624.out) | exact HB.out)⟩
                    ·rw [if_neg c91] at H
                     exact absurd H (by simp)
                   ·rw [if_neg c90] at H
                    exact absurd H (by simp)
                  ·rw [if_neg c89] at H
                   have c89b0 : decide (x9_6 < (l0_7.length : Int)) = false := decide_eq_false c89
                   clear c89
                   obtain rfl := Option.some.inj H
                   have hnb99 := NB623_624.out
                   have hnc99 := NB624_623.out
                   have hcz100_0 : wr.cell? ⟨gb623, 0, none⟩ = some (.int .i64 a0_0) := (blk_cell BK623.out 0).trans rfl
                   have hcz100_1 : wr.cell? ⟨gb623, 1, none⟩ = some (.int .i64 a0_1) := (blk_cell BK623.out 1).trans rfl
                   have hcz100_2 : wr.cell? ⟨gb623, 2, none⟩ = some (.int .i64 a0_2) := (blk_cell BK623.out 2).trans rfl
                   have hcz100_3 : wr.cell? ⟨gb623, 3, none⟩ = some (.slice A0_3 l0_3.length c0_3) := (blk_cell BK623.out 3).trans rfl
                   have hcz100_4 : wr.cell? ⟨gb623, 4, none⟩ = some (.slice A0_4 l0_4.length c0_4) := (blk_cell BK623.out 4).trans rfl
                   have hcz100_5 : wr.cell? ⟨gb623, 5, none⟩ = some (.slice A0_5 l0_5.length c0_5) := (blk_cell BK623.out 5).trans rfl
                   have hcz100_6 : wr.cell? ⟨gb623, 6, none⟩ = some (.slice A0_6 l0_6.length c0_6) := (blk_cell BK623.out 6).trans rfl
                   have hcz100_7 : wr.cell? ⟨gb623, 7, none⟩ = some (.slice A0_7 l0_7.length c0_7) := (blk_cell BK623.out 7).trans rfl
                   have hfz100_0 := blk_frozen BK623.out 0
                   have hfz100_1 := blk_frozen BK623.out 1
                   have hfz100_2 := blk_frozen BK623.out 2
                   have hfz100_3 := blk_frozen BK623.out 3
                   have hfz100_4 := blk_frozen BK623.out 4
                   have hfz100_5 := blk_frozen BK623.out 5
                   have hfz100_6 := blk_frozen BK623.out 6
                   have hfz100_7 := blk_frozen BK623.out 7
                   go_wp2
                   go_ret
                   exact ⟨by first | rfl | (simp [errW_none, errW_some] <;> rfl) | (simp [*, errW_none, errW_some] <;> rfl), by repeat (first | (with_reducible first | exact HB.out | apply below_alloc | apply pw_below_drewN | apply below_drew1 | refine below_set ?_ GE623.out | refine below_set ?_ GE624.out) | exact HB.out)⟩

end Go.Proofs.Ytjmkpcnekghmhaa.PAll
end
