/- Words, plain functions and contracts of the functions that the law of this claim reaches; no conditions. -/
import Derived.Test.YtjmkpcnekghmhaaBSnapEncodes2
section
namespace Go.Proofs.Ytjmkpcnekghmhaa.PAll
open Go.RowKit Go.Proofs.YtjmkpcnekghmhaaW.PrintWords Go.Proofs.YtjmkpcnekghmhaaW.PrintLast Go.Proofs.YtjmkpcnekghmhaaW.PrintMore
attribute [local go_sem] max2_int min2_int max_two min_two max_three min_three max_four min_four   -- for this text's walks alone
set_option linter.unusedVariables false
set_option linter.unusedSimpArgs false

mutual
def prebendref13_Encode.j0 : Nat → Bool → Int → Int → Int → List (S93) → List (S95) → List (S97) → List (S100) → List ByteArray → Option (List Int × Int)
 | 0, _, _, _, _, _, _, _, _, _ => none
 | k + 1, x40, x538000, x538001, x538002, x538003, x538004, x538005, x538006, x538007 => if x40 = true then (some (([] : List Int), 3)) else ((prebendref13_nums.f k ([] : List Int) (([x538000, x538001, x538002, (x538003.length : Int)] : List Int))).bind fun t541 => (prebendref13_Encode.l0 k t541 0 x538000 x538001 x538002 x538003 x538004 x538005 x538006 x538007))
def prebendref13_Encode.l0 : Nat → List Int → Int → Int → Int → Int → List (S93) → List (S95) → List (S97) → List (S100) → List ByteArray → Option (List Int × Int)
 | 0, _, _, _, _, _, _, _, _, _, _ => none
 | k + 1, x4, x5, x538000, x538001, x538002, x538003, x538004, x538005, x538006, x538007 => if x5 < (x538003.length : Int) then (if 0 ≤ x5 then (if (((rd_T93 x538003 x5).f0).size : Int) > 16 then (some (([] : List Int), 3)) else ((prebendref03_Text.f x4 ((rd_T93 x538003 x5).f0)).bind fun t546 => ((prebendref13_nums.f k t546 (([(rd_T93 x538003 x5).f1, (rd_T93 x538003 x5).f2] : List Int))).bind fun t554 => (prebendref13_Encode.l0 k t554 (wrap64 (x5 + 1)) x538000 x538001 x538002 x538003 x538004 x538005 x538006 x538007)))) else (none)) else ((prebendref13_nums.f k x4 (([(x538004.length : Int)] : List Int))).bind fun t560 => (prebendref13_Encode.l1 k t560 0 x538000 x538001 x538002 x538003 x538004 x538005 x538006 x538007))
def prebendref13_Encode.l1 : Nat → List Int → Int → Int → Int → Int → List (S93) → List (S95) → List (S97) → List (S100) → List ByteArray → Option (List Int × Int)
 | 0, _, _, _, _, _, _, _, _, _, _ => none
 | k + 1, x4, x6, x538000, x538001, x538002, x538003, x538004, x538005, x538006, x538007 => if x6 < (x538004.length : Int) then (if 0 ≤ x6 then ((prebendref13_nums.f k x4 (([(rd_T95 x538004 x6).f0, (rd_T95 x538004 x6).f1, (rd_T95 x538004 x6).f2, (rd_T95 x538004 x6).f3, (rd_T95 x538004 x6).f4, (rd_T95 x538004 x6).f5] : List Int))).bind fun t568 => (prebendref13_Encode.l1 k t568 (wrap64 (x6 + 1)) x538000 x538001 x538002 x538003 x538004 x538005 x538006 x538007)) else (none)) else ((prebendref13_nums.f k x4 (([(x538005.length : Int)] : List Int))).bind fun t574 => (prebendref13_Encode.l2 k t574 0 x538000 x538001 x538002 x538003 x538004 x538005 x538006 x538007))
def prebendref13_Encode.l2 : Nat → List Int → Int → Int → Int → Int → List (S93) → List (S95) → List (S97) → List (S100) → List ByteArray → Option (List Int × Int)
 | 0, _, _, _, _, _, _, _, _, _, _ => none
 | k + 1, x4, x8, x538000, x538001, x538002, x538003, x538004, x538005, x538006, x538007 => if x8 < (x538005.length : Int) then (if 0 ≤ x8 then ((prebendref13_nums.f k x4 (([(rd_T97 x538005 x8).f0, (rd_T97 x538005 x8).f1, (rd_T97 x538005 x8).f2] : List Int))).bind fun t583 => (prebendref13_Encode.l2 k t583 (wrap64 (x8 + 1)) x538000 x538001 x538002 x538003 x538004 x538005 x538006 x538007)) else (none)) else ((prebendref13_nums.f k x4 (([(x538006.length : Int)] : List Int))).bind fun t589 => (prebendref13_Encode.l3 k t589 0 x538000 x538001 x538002 x538003 x538004 x538005 x538006 x538007))
def prebendref13_Encode.l3 : Nat → List Int → Int → Int → Int → Int → List (S93) → List (S95) → List (S97) → List (S100) → List ByteArray → Option (List Int × Int)
 | 0, _, _, _, _, _, _, _, _, _, _ => none
 | k + 1, x4, x9, x538000, x538001, x538002, x538003, x538004, x538005, x538006, x538007 => if x9 < (x538006.length : Int) then (if 0 ≤ x9 then (if (((rd_T100 x538006 x9).f11).length : Int) > 16 then (some (([] : List Int), 3)) else ((prebendref13_nums.f k x4 (([(rd_T100 x538006 x9).f0, (rd_T100 x538006 x9).f1, (rd_T100 x538006 x9).f2, (rd_T100 x538006 x9).f3, (rd_T100 x538006 x9).f4, (rd_T100 x538006 x9).f5, (rd_T100 x538006 x9).f6, (rd_T100 x538006 x9).f7, (rd_T100 x538006 x9).f8, (rd_T100 x538006 x9).f9, (rd_T100 x538006 x9).f10, (((rd_T100 x538006 x9).f11).length : Int)] : List Int))).bind fun t597 => (prebendref13_Encode.l4 k t597 x9 0 x538000 x538001 x538002 x538003 x538004 x538005 x538006 x538007 ((rd_T100 x538006 x9).f0) ((rd_T100 x538006 x9).f1) ((rd_T100 x538006 x9).f2) ((rd_T100 x538006 x9).f3) ((rd_T100 x538006 x9).f4) ((rd_T100 x538006 x9).f5) ((rd_T100 x538006 x9).f6) ((rd_T100 x538006 x9).f7) ((rd_T100 x538006 x9).f8) ((rd_T100 x538006 x9).f9) ((rd_T100 x538006 x9).f10) ((rd_T100 x538006 x9).f11)))) else (none)) else ((prebendref13_nums.f k x4 (([(x538007.length : Int)] : List Int))).bind fun t611 => (prebendref13_Encode.l5 k t611 0 x538000 x538001 x538002 x538003 x538004 x538005 x538006 x538007))
def prebendref13_Encode.l4 : Nat → List Int → Int → Int → Int → Int → Int → List (S93) → List (S95) → List (S97) → List (S100) → List ByteArray → Int → Int → Int → Int → Int → Int → Int → Int → Int → Int → Int → List (S102) → Option (List Int × Int)
 | 0, _, _, _, _, _, _, _, _, _, _, _, _, _, _, _, _, _, _, _, _, _, _, _ => none
 | k + 1, x4, x9, x11, x538000, x538001, x538002, x538003, x538004, x538005, x538006, x538007, x594000, x594001, x594002, x594003, x594004, x594005, x594006, x594007, x594008, x594009, x594010, x594011 => if x11 < (x594011.length : Int) then (if 0 ≤ x11 then ((prebendref13_nums.f k x4 (([(rd_T102 x594011 x11).f0, (rd_T102 x594011 x11).f1] : List Int))).bind fun t605 => (prebendref13_Encode.l4 k t605 x9 (wrap64 (x11 + 1)) x538000 x538001 x538002 x538003 x538004 x538005 x538006 x538007 x594000 x594001 x594002 x594003 x594004 x594005 x594006 x594007 x594008 x594009 x594010 x594011)) else (none)) else (prebendref13_Encode.l3 k x4 (wrap64 (x9 + 1)) x538000 x538001 x538002 x538003 x538004 x538005 x538006 x538007)
def prebendref13_Encode.l5 : Nat → List Int → Int → Int → Int → Int → List (S93) → List (S95) → List (S97) → List (S100) → List ByteArray → Option (List Int × Int)
 | 0, _, _, _, _, _, _, _, _, _, _ => none
 | k + 1, x4, x12, x538000, x538001, x538002, x538003, x538004, x538005, x538006, x538007 => if x12 < (x538007.length : Int) then (if 0 ≤ x12 then (if ((rdOf ByteArray.empty x538007 x12).size : Int) > 16 then (some (([] : List Int), 3)) else ((prebendref03_Text.f x4 (rdOf ByteArray.empty x538007 x12)).bind fun t616 => (prebendref13_Encode.l5 k t616 (wrap64 (x12 + 1)) x538000 x538001 x538002 x538003 x538004 x538005 x538006 x538007))) else (none)) else (some (x4, 0))
end
def prebendref13_Encode.f (k : Nat) (a0_0 : Int) (a0_1 : Int) (a0_2 : Int) (l0_3 : List (S93)) (l0_4 : List (S95)) (l0_5 : List (S97)) (l0_6 : List (S100)) (l0_7 : List ByteArray) : Option (List Int × Int) := if (l0_3.length : Int) > 8 then (prebendref13_Encode.j0 k true a0_0 a0_1 a0_2 l0_3 l0_4 l0_5 l0_6 l0_7) else (if (l0_4.length : Int) > 16 then (prebendref13_Encode.j0 k true a0_0 a0_1 a0_2 l0_3 l0_4 l0_5 l0_6 l0_7) else (if (l0_5.length : Int) > 16 then (prebendref13_Encode.j0 k true a0_0 a0_1 a0_2 l0_3 l0_4 l0_5 l0_6 l0_7) else (if (l0_6.length : Int) > 16 then (prebendref13_Encode.j0 k true a0_0 a0_1 a0_2 l0_3 l0_4 l0_5 l0_6 l0_7) else (prebendref13_Encode.j0 k (decide ((l0_7.length : Int) > 8)) a0_0 a0_1 a0_2 l0_3 l0_4 l0_5 l0_6 l0_7))))
theorem prebendref13_Encode.mono_l : ∀ k, (∀ y0 y1 y2 y3 y4 y5 y6 y7 y8, LeO (prebendref13_Encode.j0 k y0 y1 y2 y3 y4 y5 y6 y7 y8) (prebendref13_Encode.j0 (k + 1) y0 y1 y2 y3 y4 y5 y6 y7 y8)) ∧ (∀ y0 y1 y2 y3 y4 y5 y6 y7 y8 y9, LeO (prebendref13_Encode.l0 k y0 y1 y2 y3 y4 y5 y6 y7 y8 y9) (prebendref13_Encode.l0 (k + 1) y0 y1 y2 y3 y4 y5 y6 y7 y8 y9)) ∧ (∀ y0 y1 y2 y3 y4 y5 y6 y7 y8 y9, LeO (prebendref13_Encode.l1 k y0 y1 y2 y3 y4 y5 y6 y7 y8 y9) (prebendref13_Encode.l1 (k + 1) y0 y1 y2 y3 y4 y5 y6 y7 y8 y9)) ∧ (∀ y0 y1 y2 y3 y4 y5 y6 y7 y8 y9, LeO (prebendref13_Encode.l2 k y0 y1 y2 y3 y4 y5 y6 y7 y8 y9) (prebendref13_Encode.l2 (k + 1) y0 y1 y2 y3 y4 y5 y6 y7 y8 y9)) ∧ (∀ y0 y1 y2 y3 y4 y5 y6 y7 y8 y9, LeO (prebendref13_Encode.l3 k y0 y1 y2 y3 y4 y5 y6 y7 y8 y9) (prebendref13_Encode.l3 (k + 1) y0 y1 y2 y3 y4 y5 y6 y7 y8 y9)) ∧ (∀ y0 y1 y2 y3 y4 y5 y6 y7 y8 y9 y10 y11 y12 y13 y14 y15 y16 y17 y18 y19 y20 y21 y22, LeO (prebendref13_Encode.l4 k y0 y1 y2 y3 y4 y5 y6 y7 y8 y9 y10 y11 y12 y13 y14 y15 y16 y17 y18 y19 y20 y21 y22) (prebendref13_Encode.l4 (k + 1) y0 y1 y2 y3 y4 y5 y6 y7 y8 y9 y10 y11 y12 y13 y14 y15 y16 y17 y18 y19 y20 y21 y22)) ∧ (∀ y0 y1 y2 y3 y4 y5 y6 y7 y8 y9, LeO (prebendref13_Encode.l5 k y0 y1 y2 y3 y4 y5 y6 y7 y8 y9) (prebendref13_Encode.l5 (k + 1) y0 y1 y2 y3 y4 y5 y6 y7 y8 y9))
 | 0 => ⟨fun _ _ _ _ _ _ _ _ _ r h => by simp [prebendref13_Encode.j0] at h, fun _ _ _ _ _ _ _ _ _ _ r h => by simp [prebendref13_Encode.l0] at h, fun _ _ _ _ _ _ _ _ _ _ r h => by simp [prebendref13_Encode.l1] at h, fun _ _ _ _ _ _ _ _ _ _ r h => by simp [prebendref13_Encode.l2] at h, fun _ _ _ _ _ _ _ _ _ _ r h => by simp [prebendref13_Encode.l3] at h, fun _ _ _ _ _ _ _ _ _ _ _ _ _ _ _ _ _ _ _ _ _ _ _ r h => by simp [prebendref13_Encode.l4] at h, fun _ _ _ _ _ _ _ _ _ _ r h => by simp [prebendref13_Encode.l5] at h⟩
 | k + 1 => by
  obtain ⟨ih0, ih1, ih2, ih3, ih4, ih5, ih6⟩ := prebendref13_Encode.mono_l k
  refine ⟨?_, ?_, ?_, ?_, ?_, ?_, ?_⟩
  ·intro y0 y1 y2 y3 y4 y5 y6 y7 y8
   unfold prebendref13_Encode.j0
   repeat' first
   | (with_reducible exact ih0 _ _ _ _ _ _ _ _ _)
   | (with_reducible exact ih1 _ _ _ _ _ _ _ _ _ _)
   | (with_reducible exact ih2 _ _ _ _ _ _ _ _ _ _)
   | (with_reducible exact ih3 _ _ _ _ _ _ _ _ _ _)
   | (with_reducible exact ih4 _ _ _ _ _ _ _ _ _ _)
   | (with_reducible exact ih5 _ _ _ _ _ _ _ _ _ _ _ _ _ _ _ _ _ _ _ _ _ _ _)
   | (with_reducible exact ih6 _ _ _ _ _ _ _ _ _ _)
   | (with_reducible exact prebendref13_nums.mono _ _ _)
   | (with_reducible exact LeO.refl _)
   | (with_reducible exact LeO.none _)
   | (with_reducible refine LeO.ite ?_ ?_)
   | (with_reducible refine LeO.bind ?_ (fun _ => ?_))
   | exact ih0 _ _ _ _ _ _ _ _ _
   | exact ih1 _ _ _ _ _ _ _ _ _ _
   | exact ih2 _ _ _ _ _ _ _ _ _ _
   | exact ih3 _ _ _ _ _ _ _ _ _ _
   | exact ih4 _ _ _ _ _ _ _ _ _ _
   | exact ih5 _ _ _ _ _ _ _ _ _ _ _ _ _ _ _ _ _ _ _ _ _ _ _
   | exact ih6 _ _ _ _ _ _ _ _ _ _
   | exact prebendref13_nums.mono _ _ _
   | exact LeO.none _
   | refine LeO.ite ?_ ?_
   | refine LeO.bind ?_ (fun _ => ?_)
  ·intro y0 y1 y2 y3 y4 y5 y6 y7 y8 y9
   unfold prebendref13_Encode.l0
   repeat' first
   | (with_reducible exact ih0 _ _ _ _ _ _ _ _ _)
   | (with_reducible exact ih1 _ _ _ _ _ _ _ _ _ _)
   | (with_reducible exact ih2 _ _ _ _ _ _ _ _ _ _)
   | (with_reducible exact ih3 _ _ _ _ _ _ _ _ _ _)
   | (with_reducible exact ih4 _ _ _ _ _ _ _ _ _ _)
   | (with_reducible exact ih5 _ _ _ _ _ _ _ _ _ _ _ _ _ _ _ _ _ _ _ _ _ _ _)
   | (with_reducible exact ih6 _ _ _ _ _ _ _ _ _ _)
   | (with_reducible exact prebendref13_nums.mono _ _ _)
   | (with_reducible exact LeO.refl _)
   | (with_reducible exact LeO.none _)
   | (with_reducible refine LeO.ite ?_ ?_)
   | (with_reducible refine LeO.bind ?_ (fun _ => ?_))
   | exact ih0 _ _ _ _ _ _ _ _ _
   | exact ih1 _ _ _ _ _ _ _ _ _ _
   | exact ih2 _ _ _ _ _ _ _ _ _ _
   | exact ih3 _ _ _ _ _ _ _ _ _ _
   | exact ih4 _ _ _ _ _ _ _ _ _ _
   | exact ih5 _ _ _ _ _ _ _ _ _ _ _ _ _ _ _ _ _ _ _ _ _ _ _
   | exact ih6 _ _ _ _ _ _ _ _ _ _
   | exact prebendref13_nums.mono _ _ _
   | exact LeO.none _
   | refine LeO.ite ?_ ?_
   | refine LeO.bind ?_ (fun _ => ?_)
  ·intro y0 y1 y2 y3 y4 y5 y6 y7 y8 y9
   unfold prebendref13_Encode.l1
   repeat' first
   | (with_reducible exact ih0 _ _ _ _ _ _ _ _ _)
   | (with_reducible exact ih1 _ _ _ _ _ _ _ _ _ _)
   | (with_reducible exact ih2 _ _ _ _ _ _ _ _ _ _)
   | (with_reducible exact ih3 _ _ _ _ _ _ _ _ _ _)
   | (with_reducible exact ih4 _ _ _ _ _ _ _ _ _ _)
   | (with_reducible exact ih5 _ _ _ _ _ _ _ _ _ _ _ _ _ _ _ _ _ _ _ _ _ _ _)
   | (with_reducible exact ih6 _ _ _ _ _ _ _ _ _ _)
   | (with_reducible exact prebendref13_nums.mono _ _ _)
   | (with_reducible exact LeO.refl _)
   | (with_reducible exact LeO.none _)
   | (with_reducible refine LeO.ite ?_ ?_)
   | (with_reducible refine LeO.bind ?_ (fun _ => ?_))
   | exact ih0 _ _ _ _ _ _ _ _ _
   | exact ih1 _ _ _ _ _ _ _ _ _ _
   | exact ih2 _ _ _ _ _ _ _ _ _ _
   | exact ih3 _ _ _ _ _ _ _ _ _ _
   | exact ih4 _ _ _ _ _ _ _ _ _ _
   | exact ih5 _ _ _ _ _ _ _ _ _ _ _ _ _ _ _ _ _ _ _ _ _ _ _
   | exact ih6 _ _ _ _ _ _ _ _ _ _
   | exact prebendref13_nums.mono _ _ _
   | exact LeO.none _
   | refine LeO.ite ?_ ?_
   | refine LeO.bind ?_ (fun _ => ?_)
  ·intro y0 y1 y2 y3 y4 y5 y6 y7 y8 y9
   unfold prebendref13_Encode.l2
   repeat' first
   | (with_reducible exact ih0 _ _ _ _ _ _ _ _ _)
   | (with_reducible exact ih1 _ _ _ _ _ _ _ _ _ _)
   | (with_reducible exact ih2 _ _ _ _ _ _ _ _ _ _)
   | (with_reducible exact ih3 _ _ _ _ _ _ _ _ _ _)
   | (with_reducible exact ih4 _ _ _ _ _ _ _ _ _ _)
   | (with_reducible exact ih5 _ _ _ _ _ _ _ _ _ _ _ _ _ _ _ _ _ _ _ _ _ _ _)
   | (with_reducible exact ih6 _ _ _ _ _ _ _ _ _ _)
   | (with_reducible exact prebendref13_nums.mono _ _ _)
   | (with_reducible exact LeO.refl _)
   | (with_reducible exact LeO.none _)
   | (with_reducible refine LeO.ite ?_ ?_)
   | (with_reducible refine LeO.bind ?_ (fun _ => ?_))
   | exact ih0 _ _ _ _ _ _ _ _ _
   | exact ih1 _ _ _ _ _ _ _ _ _ _
   | exact ih2 _ _ _ _ _ _ _ _ _ _
   | exact ih3 _ _ _ _ _ _ _ _ _ _
   | exact ih4 _ _ _ _ _ _ _ _ _ _
   | exact ih5 _ _ _ _ _ _ _ _ _ _ _ _ _ _ _ _ _ _ _ _ _ _ _
   | exact ih6 _ _ _ _ _ _ _ _ _ _
   | exact prebendref13_nums.mono _ _ _
   | exact LeO.none _
   | refine LeO.ite ?_ ?_
   | refine LeO.bind ?_ (fun _ => ?_)
  ·intro y0 y1 y2 y3 y4 y5 y6 y7 y8 y9
   unfold prebendref13_Encode.l3
   repeat' first
   | (with_reducible exact ih0 _ _ _ _ _ _ _ _ _)
   | (with_reducible exact ih1 _ _ _ _ _ _ _ _ _ _)
   | (with_reducible exact ih2 _ _ _ _ _ _ _ _ _ _)
   | (with_reducible exact ih3 _ _ _ _ _ _ _ _ _ _)
   | (with_reducible exact ih4 _ _ _ _ _ _ _ _ _ _)
   | (with_reducible exact ih5 _ _ _ _ _ _ _ _ _ _ _ _ _ _ _ _ _ _ _ _ _ _ _)
   | (with_reducible exact ih6 _ _ _ _ _ _ _ _ _ _)
   | (with_reducible exact prebendref13_nums.mono _ _ _)
   | (with_reducible exact LeO.refl _)
   | (with_reducible exact LeO.none _)
   | (with_reducible refine LeO.ite ?_ ?_)
   | (with_reducible refine LeO.bind ?_ (fun _ => ?_))
   | exact ih0 _ _ _ _ _ _ _ _ _
   | exact ih1 _ _ _ _ _ _ _ _ _ _
   | exact ih2 _ _ _ _ _ _ _ _ _ _
   | exact ih3 _ _ _ _ _ _ _ _ _ _
   | exact ih4 _ _ _ _ _ _ _ _ _ _
   | exact ih5 _ _ _ _ _ _ _ _ _ _ _ _ _ _ _ _ _ _ _ _ _ _ _
   | exact ih6 _ _ _ _ _ _ _ _ _ _
   | exact prebendref13_nums.mono _ _ _
   | exact LeO.none _
   | refine LeO.ite ?_ ?_
   | refine LeO.bind ?_ (fun _ => ?_)
  ·intro y0 y1 y2 y3 y4 y5 y6 y7 y8 y9 y10 y11 y12 y13 y14 y15 y16 y17 y18 y19 y20 y21 y22
   unfold prebendref13_Encode.l4
   repeat' first
   | (with_reducible exact ih0 _ _ _ _ _ _ _ _ _)
   | (with_reducible exact ih1 _ _ _ _ _ _ _ _ _ _)
   | (with_reducible exact ih2 _ _ _ _ _ _ _ _ _ _)
   | (with_reducible exact ih3 _ _ _ _ _ _ _ _ _ _)
   | (with_reducible exact ih4 _ _ _ _ _ _ _ _ _ _)
   | (with_reducible exact ih5 _ _ _ _ _ _ _ _ _ _ _ _ _ _ _ _ _ _ _ _ _ _ _)
   | (with_reducible exact ih6 _ _ _ _ _ _ _ _ _ _)
   | (with_reducible exact prebendref13_nums.mono _ _ _)
   | (with_reducible exact LeO.refl _)
   | (with_reducible exact LeO.none _)
   | (with_reducible refine LeO.ite ?_ ?_)
   | (with_reducible refine LeO.bind ?_ (fun _ => ?_))
   | exact ih0 _ _ _ _ _ _ _ _ _
   | exact ih1 _ _ _ _ _ _ _ _ _ _
   | exact ih2 _ _ _ _ _ _ _ _ _ _
   | exact ih3 _ _ _ _ _ _ _ _ _ _
   | exact ih4 _ _ _ _ _ _ _ _ _ _
   | exact ih5 _ _ _ _ _ _ _ _ _ _ _ _ _ _ _ _ _ _ _ _ _ _ _
   | exact ih6 _ _ _ _ _ _ _ _ _ _
   | exact prebendref13_nums.mono _ _ _
   | exact LeO.none _
   | refine LeO.ite ?_ ?_
   | refine LeO.bind ?_ (fun _ => ?_)
  ·intro y0 y1 y2 y3 y4 y5 y6 y7 y8 y9
   unfold prebendref13_Encode.l5
   repeat' first
   | (with_reducible exact ih0 _ _ _ _ _ _ _ _ _)
   | (with_reducible exact ih1 _ _ _ _ _ _ _ _ _ _)
   | (with_reducible exact ih2 _ _ _ _ _ _ _ _ _ _)
   | (with_reducible exact ih3 _ _ _ _ _ _ _ _ _ _)
   | (with_reducible exact ih4 _ _ _ _ _ _ _ _ _ _)
   | (with_reducible exact ih5 _ _ _ _ _ _ _ _ _ _ _ _ _ _ _ _ _ _ _ _ _ _ _)
   | (with_reducible exact ih6 _ _ _ _ _ _ _ _ _ _)
   | (with_reducible exact prebendref13_nums.mono _ _ _)
   | (with_reducible exact LeO.refl _)
   | (with_reducible exact LeO.none _)
   | (with_reducible refine LeO.ite ?_ ?_)
   | (with_reducible refine LeO.bind ?_ (fun _ => ?_))
   | exact ih0 _ _ _ _ _ _ _ _ _
   | exact ih1 _ _ _ _ _ _ _ _ _ _
   | exact ih2 _ _ _ _ _ _ _ _ _ _
   | exact ih3 _ _ _ _ _ _ _ _ _ _
   | exact ih4 _ _ _ _ _ _ _ _ _ _
   | exact ih5 _ _ _ _ _ _ _ _ _ _ _ _ _ _ _ _ _ _ _ _ _ _ _
   | exact ih6 _ _ _ _ _ _ _ _ _ _
   | exact prebendref13_nums.mono _ _ _
   | exact LeO.none _
   | refine LeO.ite ?_ ?_
   | refine LeO.bind ?_ (fun _ => ?_)
theorem prebendref13_Encode.mono : ∀ a0 a1 a2 a3 a4 a5 a6 a7 k, LeO (prebendref13_Encode.f k a0 a1 a2 a3 a4 a5 a6 a7) (prebendref13_Encode.f (k + 1) a0 a1 a2 a3 a4 a5 a6 a7) := by
 intro a0 a1 a2 a3 a4 a5 a6 a7 k
 obtain ⟨ih0, ih1, ih2, ih3, ih4, ih5, ih6⟩ := prebendref13_Encode.mono_l k
 unfold prebendref13_Encode.f
 repeat' first
   | (with_reducible exact ih0 _ _ _ _ _ _ _ _ _)
   | (with_reducible exact ih1 _ _ _ _ _ _ _ _ _ _)
   | (with_reducible exact ih2 _ _ _ _ _ _ _ _ _ _)
   | (with_reducible exact ih3 _ _ _ _ _ _ _ _ _ _)
   | (with_reducible exact ih4 _ _ _ _ _ _ _ _ _ _)
   | (with_reducible exact ih5 _ _ _ _ _ _ _ _ _ _ _ _ _ _ _ _ _ _ _ _ _ _ _)
   | (with_reducible exact ih6 _ _ _ _ _ _ _ _ _ _)
   | (with_reducible exact prebendref13_nums.mono _ _ _)
   | (with_reducible exact LeO.refl _)
   | (with_reducible exact LeO.none _)
   | (with_reducible refine LeO.ite ?_ ?_)
   | (with_reducible refine LeO.bind ?_ (fun _ => ?_))
   | exact ih0 _ _ _ _ _ _ _ _ _
   | exact ih1 _ _ _ _ _ _ _ _ _ _
   | exact ih2 _ _ _ _ _ _ _ _ _ _
   | exact ih3 _ _ _ _ _ _ _ _ _ _
   | exact ih4 _ _ _ _ _ _ _ _ _ _
   | exact ih5 _ _ _ _ _ _ _ _ _ _ _ _ _ _ _ _ _ _ _ _ _ _ _
   | exact ih6 _ _ _ _ _ _ _ _ _ _
   | exact prebendref13_nums.mono _ _ _
   | exact LeO.none _
   | refine LeO.ite ?_ ?_
   | refine LeO.bind ?_ (fun _ => ?_)
def prebendref13_Encode.T9 : Bool × List (List Nat × List Nat) := (true, [([], []), ([], []), ([1], [1]), ([], []), ([2, 3], [2, 3]), ([4], [4]), ([5], [5]), ([0, 6], [0, 6]), ([], []), ([8], [8]), ([], []), ([9, 10], [9, 10]), ([11], [11]), ([12], [12]), ([], []), ([14], [14]), ([], []), ([15, 16], [15, 16]), ([17], [17]), ([18], [18]), ([13, 19], [13, 19]), ([7, 20, 7], [7, 20]), ([21, 21, 0, 1, 2, 3, 4, 5, 6, 7, 8, 9, 10, 11, 12, 13, 14, 15, 16, 17, 18, 19, 20, 21], [0, 21])])
def prebendref13_Encode.B9 : List Nat := [0, 0, 2, 0, 14, 30, 62, 127, 0, 256, 0, 1792, 3840, 7936, 0, 16384, 0, 114688, 245760, 507904, 1048320, 2097151, 4194303]
theorem prebendref13_Encode.tab9 : rtab .any (opsOf Try.f34 9) = prebendref13_Encode.T9 := by kernel_rfl
theorem prebendref13_Encode.bits9 : waitsOk prebendref13_Encode.T9.2 prebendref13_Encode.B9 = true := by kernel_rfl
def prebendref13_Encode.T20 : Bool × List (List Nat × List Nat) := (true, [([], []), ([], []), ([1], [1]), ([], []), ([2, 3], [2, 3]), ([4], [4]), ([5], [5]), ([], []), ([7], [7]), ([], []), ([8, 9], [8, 9]), ([10], [10]), ([11], [11]), ([], []), ([13], [13]), ([], []), ([14, 15], [14, 15]), ([16], [16]), ([17], [17]), ([6, 12, 18], [6, 12, 18]), ([0, 19], [0, 19]), ([20, 20, 0, 1, 2, 3, 4, 5, 6, 7, 8, 9, 10, 11, 12, 13, 14, 15, 16, 17, 18, 19, 20], [0, 20])])
def prebendref13_Encode.B20 : List Nat := [0, 0, 2, 0, 14, 30, 62, 0, 128, 0, 896, 1920, 3968, 0, 8192, 0, 57344, 122880, 253952, 524286, 1048575, 2097151]
theorem prebendref13_Encode.tab20 : rtab .any (opsOf Try.f34 20) = prebendref13_Encode.T20 := by kernel_rfl
theorem prebendref13_Encode.bits20 : waitsOk prebendref13_Encode.T20.2 prebendref13_Encode.B20 = true := by kernel_rfl
def prebendref13_Encode.T32 : Bool × List (List Nat × List Nat) := (true, [([], []), ([], []), ([1], [1]), ([], []), ([2, 3], [2, 3]), ([4], [4]), ([5], [5]), ([], []), ([7], [7]), ([], []), ([8, 9], [8, 9]), ([10], [10]), ([11], [11]), ([6, 12], [6, 12]), ([0, 13], [0, 13]), ([14, 14, 0, 1, 2, 3, 4, 5, 6, 7, 8, 9, 10, 11, 12, 13, 14], [0, 14])])
def prebendref13_Encode.B32 : List Nat := [0, 0, 2, 0, 14, 30, 62, 0, 128, 0, 896, 1920, 3968, 8190, 16383, 32767]
theorem prebendref13_Encode.tab32 : rtab .any (opsOf Try.f34 32) = prebendref13_Encode.T32 := by kernel_rfl
theorem prebendref13_Encode.bits32 : waitsOk prebendref13_Encode.T32.2 prebendref13_Encode.B32 = true := by kernel_rfl
set_option maxHeartbeats 8000000 in
set_option maxRecDepth 100000 in
theorem prebendref13_Encode.calls (k : Nat) (a0_0 : Int) (a0_1 : Int) (a0_2 : Int) (A0_3 : Option Addr) (c0_3 : Nat) (l0_3 : List (S93)) (A0_4 : Option Addr) (c0_4 : Nat) (l0_4 : List (S95)) (A0_5 : Option Addr) (c0_5 : Nat) (l0_5 : List (S97)) (A0_6 : Option Addr) (c0_6 : Nat) (l0_6 : List (S100)) (A0_7 : Option Addr) (c0_7 : Nat) (l0_7 : List ByteArray) (r1 : List Int) (r2 : Int) (w : World) (hr0_3 : Kd.C k93 w A0_3 l0_3.length l0_3) (hc0_3 : l0_3.length ≤ c0_3) (hr0_4 : Kd.C k95 w A0_4 l0_4.length l0_4) (hc0_4 : l0_4.length ≤ c0_4) (hr0_5 : Kd.C k97 w A0_5 l0_5.length l0_5) (hc0_5 : l0_5.length ≤ c0_5) (hr0_6 : Kd.C k100 w A0_6 l0_6.length l0_6) (hc0_6 : l0_6.length ≤ c0_6) (hr0_7 : Kd.C Kd.string w A0_7 l0_7.length l0_7) (hc0_7 : l0_7.length ≤ c0_7) (h : prebendref13_Encode.f k a0_0 a0_1 a0_2 l0_3 l0_4 l0_5 l0_6 l0_7 = some (r1, r2)) :
  Calls Try.prog 34 #[.agg #[.int .i64 a0_0, .int .i64 a0_1, .int .i64 a0_2, .slice A0_3 l0_3.length c0_3, .slice A0_4 l0_4.length c0_4, .slice A0_5 l0_5.length c0_5, .slice A0_6 l0_6.length c0_6, .slice A0_7 l0_7.length c0_7]] w fun e w' => ∃ v0_ : Value, e = .returned (.tuple #[v0_, .int .i64 r2]) ∧ Kd.R (Kd.int .u8) 5 w' w.heap.size (fun _ => True) v0_ r1 ∧ Below w.heap.size w w' := by
 have hu67 := Try.underlying67
 have hu95 := Try.underlying95
 have hu100 := Try.underlying100
 have HR0_3 := Aside0.mk hr0_3
 have HC0_3 := Aside0.mk hc0_3
 clear hr0_3; clear hc0_3
 have HR0_4 := Aside0.mk hr0_4
 have HC0_4 := Aside0.mk hc0_4
 clear hr0_4; clear hc0_4
 have HR0_5 := Aside0.mk hr0_5
 have HC0_5 := Aside0.mk hc0_5
 clear hr0_5; clear hc0_5
 have HR0_6 := Aside0.mk hr0_6
 have HC0_6 := Aside0.mk hc0_6
 clear hr0_6; clear hc0_6
 have HR0_7 := Aside0.mk hr0_7
 have HC0_7 := Aside0.mk hc0_7
 clear hr0_7; clear hc0_7
 have HB := Aside0.mk (Below.refl w.heap.size w)
 have H : (if (l0_3.length : Int) > 8 then (prebendref13_Encode.j0 k true a0_0 a0_1 a0_2 l0_3 l0_4 l0_5 l0_6 l0_7) else (if (l0_4.length : Int) > 16 then (prebendref13_Encode.j0 k true a0_0 a0_1 a0_2 l0_3 l0_4 l0_5 l0_6 l0_7) else (if (l0_5.length : Int) > 16 then (prebendref13_Encode.j0 k true a0_0 a0_1 a0_2 l0_3 l0_4 l0_5 l0_6 l0_7) else (if (l0_6.length : Int) > 16 then (prebendref13_Encode.j0 k true a0_0 a0_1 a0_2 l0_3 l0_4 l0_5 l0_6 l0_7) else (prebendref13_Encode.j0 k (decide ((l0_7.length : Int) > 8)) a0_0 a0_1 a0_2 l0_3 l0_4 l0_5 l0_6 l0_7))))) = some (r1, r2) := h
 clear h
 have HC2 := Aside0.mk H
 clear H
 go_enter Try.func34, Try.ntmps34
 go_upto_region 1 with (first | ((with_reducible refine gate_dst (N := 1) rfl ?_); (try (refine gate_guard (by rfl) ?_; dsimp only)); refine box_event ?hg (N := 1) ?hd (cs := #[.int .i64 a0_0, .int .i64 a0_1, .int .i64 a0_2, .slice A0_3 l0_3.length c0_3, .slice A0_4 l0_4.length c0_4, .slice A0_5 l0_5.length c0_5, .slice A0_6 l0_6.length c0_6, .slice A0_7 l0_7.length c0_7]) (t := 67) ?hr ?_; (case hd => rfl); (case hg => rfl); (case hr => first | (go_simp; done) | (go_simp; rfl)); intro gb537 hg w3 hbox hb; have n0_ := Aside0.mk (below_step (mB HB.out) hb); have n1_ := Aside0.mk (hbox); have n2_ := Aside0.mk ((by rw [hg]; exact (below_size (mB HB.out)) : w.heap.size ≤ gb537)); have n3_ := Aside0.mk ((by rw [hg]; exact (below_size (mB HB.out)) : w.heap.size ≤ gb537)); clear HB; have HB := n0_; have BK537 := n1_; have GW537 := n2_; have GE537 := n3_; clear n0_ n1_ n2_ n3_; clear hb hbox hg))
 (try simp only [Act.put, List.setIfInBounds_toArray, List.set_cons_zero, List.set_cons_succ])
 go_cut [40] from 100000 (fun v40 wc => ∃ (kq : Nat) (x40_1 : Bool), v40 = .bool x40_1 ∧ Aside0 (prebendref13_Encode.j0 kq x40_1 a0_0 a0_1 a0_2 l0_3 l0_4 l0_5 l0_6 l0_7 = some (r1, r2)) ∧ Aside0 (kq ≤ k) ∧ Aside0 (wc.heap[gb537]? = some (.cells #[.int .i64 a0_0, .int .i64 a0_1, .int .i64 a0_2, (.slice A0_3 l0_3.length c0_3), (.slice A0_4 l0_4.length c0_4), (.slice A0_5 l0_5.length c0_5), (.slice A0_6 l0_6.length c0_6), (.slice A0_7 l0_7.length c0_7)] 67 (0, 0))) ∧ Aside0 (Below w.heap.size w wc))
 case first =>
  have H := HC2.out
  clear HC2
  by_cases c4 : (l0_3.length : Int) > 8
  ·rw [if_pos c4] at H
   have c4b0 : decide (8 < (l0_3.length : Int)) = true := decide_eq_true c4
   have c4b1 : decide (8 < l0_3.length) = true := decide_eq_true (by omega)
   clear c4
   (first | rw [c4b0] | (simp only [i64_w, i32_w]; rw [c4b0]) | skip)
   have H' := Aside0.mk H
   clear H
   have hcz5_0 : w3.cell? ⟨gb537, 0, none⟩ = some (.int .i64 a0_0) := (blk_cell BK537.out 0).trans rfl
   have hcz5_1 : w3.cell? ⟨gb537, 1, none⟩ = some (.int .i64 a0_1) := (blk_cell BK537.out 1).trans rfl
   have hcz5_2 : w3.cell? ⟨gb537, 2, none⟩ = some (.int .i64 a0_2) := (blk_cell BK537.out 2).trans rfl
   have hcz5_3 : w3.cell? ⟨gb537, 3, none⟩ = some (.slice A0_3 l0_3.length c0_3) := (blk_cell BK537.out 3).trans rfl
   have hcz5_4 : w3.cell? ⟨gb537, 4, none⟩ = some (.slice A0_4 l0_4.length c0_4) := (blk_cell BK537.out 4).trans rfl
   have hcz5_5 : w3.cell? ⟨gb537, 5, none⟩ = some (.slice A0_5 l0_5.length c0_5) := (blk_cell BK537.out 5).trans rfl
   have hcz5_6 : w3.cell? ⟨gb537, 6, none⟩ = some (.slice A0_6 l0_6.length c0_6) := (blk_cell BK537.out 6).trans rfl
   have hcz5_7 : w3.cell? ⟨gb537, 7, none⟩ = some (.slice A0_7 l0_7.length c0_7) := (blk_cell BK537.out 7).trans rfl
   have hfz5_0 := blk_frozen BK537.out 0
   have hfz5_1 := blk_frozen BK537.out 1
   have hfz5_2 := blk_frozen BK537.out 2
   have hfz5_3 := blk_frozen BK537.out 3
   have hfz5_4 := blk_frozen BK537.out 4
   have hfz5_5 := blk_frozen BK537.out 5
   have hfz5_6 := blk_frozen BK537.out 6
   have hfz5_7 := blk_frozen BK537.out 7
   go_wp2
   go_meet
   case rel => exact ⟨_, (true), ez, H', ⟨by first | omega | exact Nat.le_refl _⟩, ⟨mBK BK537.out⟩, ⟨mBs HB.out⟩⟩
  ·rw [if_neg c4] at H
   have c4b0 : decide (8 < (l0_3.length : Int)) = false := decide_eq_false c4
   have c4b1 : decide (8 < l0_3.length) = false := decide_eq_false (by omega)
   clear c4
   (first | rw [c4b0] | (simp only [i64_w, i32_w]; rw [c4b0]) | skip)
   by_cases c6 : (l0_4.length : Int) > 16
   ·rw [if_pos c6] at H
    have c6b0 : decide (16 < (l0_4.length : Int)) = true := decide_eq_true c6
    have c6b1 : decide (16 < l0_4.length) = true := decide_eq_true (by omega)
    clear c6
    have H' := Aside0.mk H
    clear H
    have hcz7_0 : w3.cell? ⟨gb537, 0, none⟩ = some (.int .i64 a0_0) := (blk_cell BK537.out 0).trans rfl
    have hcz7_1 : w3.cell? ⟨gb537, 1, none⟩ = some (.int .i64 a0_1) := (blk_cell BK537.out 1).trans rfl
    have hcz7_2 : w3.cell? ⟨gb537, 2, none⟩ = some (.int .i64 a0_2) := (blk_cell BK537.out 2).trans rfl
    have hcz7_3 : w3.cell? ⟨gb537, 3, none⟩ = some (.slice A0_3 l0_3.length c0_3) := (blk_cell BK537.out 3).trans rfl
    have hcz7_4 : w3.cell? ⟨gb537, 4, none⟩ = some (.slice A0_4 l0_4.length c0_4) := (blk_cell BK537.out 4).trans rfl
    have hcz7_5 : w3.cell? ⟨gb537, 5, none⟩ = some (.slice A0_5 l0_5.length c0_5) := (blk_cell BK537.out 5).trans rfl
    have hcz7_6 : w3.cell? ⟨gb537, 6, none⟩ = some (.slice A0_6 l0_6.length c0_6) := (blk_cell BK537.out 6).trans rfl
    have hcz7_7 : w3.cell? ⟨gb537, 7, none⟩ = some (.slice A0_7 l0_7.length c0_7) := (blk_cell BK537.out 7).trans rfl
    have hfz7_0 := blk_frozen BK537.out 0
    have hfz7_1 := blk_frozen BK537.out 1
    have hfz7_2 := blk_frozen BK537.out 2
    have hfz7_3 := blk_frozen BK537.out 3
    have hfz7_4 := blk_frozen BK537.out 4
    have hfz7_5 := blk_frozen BK537.out 5
    have hfz7_6 := blk_frozen BK537.out 6
    have hfz7_7 := blk_frozen BK537.out 7
    go_wp2
    go_meet
    case rel => exact ⟨_, (true), ez, H', ⟨by first | omega | exact Nat.le_refl _⟩, ⟨mBK BK537.out⟩, ⟨mBs HB.out⟩⟩
   ·rw [if_neg c6] at H
    have c6b0 : decide (16 < (l0_4.length : Int)) = false := decide_eq_false c6
    have c6b1 : decide (16 < l0_4.length) = false := decide_eq_false (by omega)
    clear c6
    by_cases c8 : (l0_5.length : Int) > 16
    ·rw [if_pos c8] at H
     have c8b0 : decide (16 < (l0_5.length : Int)) = true := decide_eq_true c8
     have c8b1 : decide (16 < l0_5.length) = true := decide_eq_true (by omega)
     clear c8
     have H' := Aside0.mk H
     clear H
     have hcz9_0 : w3.cell? ⟨gb537, 0, none⟩ = some (.int .i64 a0_0) := (blk_cell BK537.out 0).trans rfl
     have hcz9_1 : w3.cell? ⟨gb537, 1, none⟩ = some (.int .i64 a0_1) := (blk_cell BK537.out 1).trans rfl
     have hcz9_2 : w3.cell? ⟨gb537, 2, none⟩ = some (.int .i64 a0_2) := (blk_cell BK537.out 2).trans rfl
     have hcz9_3 : w3.cell? ⟨gb537, 3, none⟩ = some (.slice A0_3 l0_3.length c0_3) := (blk_cell BK537.out 3).trans rfl
     have hcz9_4 : w3.cell? ⟨gb537, 4, none⟩ = some (.slice A0_4 l0_4.length c0_4) := (blk_cell BK537.out 4).trans rfl
     have hcz9_5 : w3.cell? ⟨gb537, 5, none⟩ = some (.slice A0_5 l0_5.length c0_5) := (blk_cell BK537.out 5).trans rfl
     have hcz9_6 : w3.cell? ⟨gb537, 6, none⟩ = some (.slice A0_6 l0_6.length c0_6) := (blk_cell BK537.out 6).trans rfl
     have hcz9_7 : w3.cell? ⟨gb537, 7, none⟩ = some (.slice A0_7 l0_7.length c0_7) := (blk_cell BK537.out 7).trans rfl
     have hfz9_0 := blk_frozen BK537.out 0
     have hfz9_1 := blk_frozen BK537.out 1
     have hfz9_2 := blk_frozen BK537.out 2
     have hfz9_3 := blk_frozen BK537.out 3
     have hfz9_4 := blk_frozen BK537.out 4
     have hfz9_5 := blk_frozen BK537.out 5
     have hfz9_6 := blk_frozen BK537.out 6
     have hfz9_7 := blk_frozen BK537.out 7
     go_wp2
     go_meet
     case rel => exact ⟨_, (true), ez, H', ⟨by first | omega | exact Nat.le_refl _⟩, ⟨mBK BK537.out⟩, ⟨mBs HB.out⟩⟩
    ·rw [if_neg c8] at H
     have c8b0 : decide (16 < (l0_5.length : Int)) = false := decide_eq_false c8
     have c8b1 : decide (16 < l0_5.length) = false := decide_eq_false (by omega)
     clear c8
     by_cases c10 : (l0_6.length : Int) > 16
     ·rw [if_pos c10] at H
      have c10b0 : decide (16 < (l0_6.length : Int)) = true := decide_eq_true c10
      have c10b1 : decide (16 < l0_6.length) = true := decide_eq_true (by omega)
      clear c10
      have H' := Aside0.mk H
      clear H
      have hcz11_0 : w3.cell? ⟨gb537, 0, none⟩ = some (.int .i64 a0_0) := (blk_cell BK537.out 0).trans rfl
      have hcz11_1 : w3.cell? ⟨gb537, 1, none⟩ = some (.int .i64 a0_1) := (blk_cell BK537.out 1).trans rfl
      have hcz11_2 : w3.cell? ⟨gb537, 2, none⟩ = some (.int .i64 a0_2) := (blk_cell BK537.out 2).trans rfl
      have hcz11_3 : w3.cell? ⟨gb537, 3, none⟩ = some (.slice A0_3 l0_3.length c0_3) := (blk_cell BK537.out 3).trans rfl
      have hcz11_4 : w3.cell? ⟨gb537, 4, none⟩ = some (.slice A0_4 l0_4.length c0_4) := (blk_cell BK537.out 4).trans rfl
      have hcz11_5 : w3.cell? ⟨gb537, 5, none⟩ = some (.slice A0_5 l0_5.length c0_5) := (blk_cell BK537.out 5).trans rfl
      have hcz11_6 : w3.cell? ⟨gb537, 6, none⟩ = some (.slice A0_6 l0_6.length c0_6) := (blk_cell BK537.out 6).trans rfl
      have hcz11_7 : w3.cell? ⟨gb537, 7, none⟩ = some (.slice A0_7 l0_7.length c0_7) := (blk_cell BK537.out 7).trans rfl
      have hfz11_0 := blk_frozen BK537.out 0
      have hfz11_1 := blk_frozen BK537.out 1
      have hfz11_2 := blk_frozen BK537.out 2
      have hfz11_3 := blk_frozen BK537.out 3
      have hfz11_4 := blk_frozen BK537.out 4
      have hfz11_5 := blk_frozen BK537.out 5
      have hfz11_6 := blk_frozen BK537.out 6
      have hfz11_7 := blk_frozen BK537.out 7
      go_wp2
      go_meet
      case rel => exact ⟨_, (true), ez, H', ⟨by first | omega | exact Nat.le_refl _⟩, ⟨mBK BK537.out⟩, ⟨mBs HB.out⟩⟩
     ·rw [if_neg c10] at H
      have c10b0 : decide (16 < (l0_6.length : Int)) = false := decide_eq_false c10
      have c10b1 : decide (16 < l0_6.length) = false := decide_eq_false (by omega)
      clear c10
      have H' := Aside0.mk H
      clear H
      have hcz12_0 : w3.cell? ⟨gb537, 0, none⟩ = some (.int .i64 a0_0) := (blk_cell BK537.out 0).trans rfl
      have hcz12_1 : w3.cell? ⟨gb537, 1, none⟩ = some (.int .i64 a0_1) := (blk_cell BK537.out 1).trans rfl
      have hcz12_2 : w3.cell? ⟨gb537, 2, none⟩ = some (.int .i64 a0_2) := (blk_cell BK537.out 2).trans rfl
      have hcz12_3 : w3.cell? ⟨gb537, 3, none⟩ = some (.slice A0_3 l0_3.length c0_3) := (blk_cell BK537.out 3).trans rfl
      have hcz12_4 : w3.cell? ⟨gb537, 4, none⟩ = some (.slice A0_4 l0_4.length c0_4) := (blk_cell BK537.out 4).trans rfl
      have hcz12_5 : w3.cell? ⟨gb537, 5, none⟩ = some (.slice A0_5 l0_5.length c0_5) := (blk_cell BK537.out 5).trans rfl
      have hcz12_6 : w3.cell? ⟨gb537, 6, none⟩ = some (.slice A0_6 l0_6.length c0_6) := (blk_cell BK537.out 6).trans rfl
      have hcz12_7 : w3.cell? ⟨gb537, 7, none⟩ = some (.slice A0_7 l0_7.length c0_7) := (blk_cell BK537.out 7).trans rfl
      have hfz12_0 := blk_frozen BK537.out 0
      have hfz12_1 := blk_frozen BK537.out 1
      have hfz12_2 := blk_frozen BK537.out 2
      have hfz12_3 := blk_frozen BK537.out 3
      have hfz12_4 := blk_frozen BK537.out 4
      have hfz12_5 := blk_frozen BK537.out 5
      have hfz12_6 := blk_frozen BK537.out 6
      have hfz12_7 := blk_frozen BK537.out 7
      go_wp2
      go_meet
      case rel => exact ⟨_, (decide ((l0_7.length : Int) > 8)), ez, H', ⟨by first | omega | exact Nat.le_refl _⟩, ⟨mBK BK537.out⟩, ⟨mBs HB.out⟩⟩
 case rest =>
  clear HC2
  (try clear c1); (try clear p2); (try clear c3); (try clear c4); (try clear c4b0); (try clear c4b1); (try clear c6); (try clear c6b0); (try clear c6b1); (try clear c8); (try clear c8b0); (try clear c8b1); (try clear c10); (try clear c10b0); (try clear c10b1); (try clear hcz11_0); (try clear hcz11_1); (try clear hcz11_2); (try clear hcz11_3); (try clear hcz11_4); (try clear hcz11_5); (try clear hcz11_6); (try clear hcz11_7); (try clear hcz12_0); (try clear hcz12_1); (try clear hcz12_2); (try clear hcz12_3); (try clear hcz12_4); (try clear hcz12_5); (try clear hcz12_6); (try clear hcz12_7); (try clear hcz5_0); (try clear hcz5_1); (try clear hcz5_2); (try clear hcz5_3); (try clear hcz5_4); (try clear hcz5_5); (try clear hcz5_6); (try clear hcz5_7); (try clear hcz7_0); (try clear hcz7_1); (try clear hcz7_2); (try clear hcz7_3); (try clear hcz7_4); (try clear hcz7_5); (try clear hcz7_6); (try clear hcz7_7); (try clear hcz9_0); (try clear hcz9_1); (try clear hcz9_2); (try clear hcz9_3); (try clear hcz9_4); (try clear hcz9_5); (try clear hcz9_6); (try clear hcz9_7); (try clear hfz11_0); (try clear hfz11_1); (try clear hfz11_2); (try clear hfz11_3); (try clear hfz11_4); (try clear hfz11_5); (try clear hfz11_6); (try clear hfz11_7); (try clear hfz12_0); (try clear hfz12_1); (try clear hfz12_2); (try clear hfz12_3); (try clear hfz12_4); (try clear hfz12_5); (try clear hfz12_6); (try clear hfz12_7); (try clear hfz5_0); (try clear hfz5_1); (try clear hfz5_2); (try clear hfz5_3); (try clear hfz5_4); (try clear hfz5_5); (try clear hfz5_6); (try clear hfz5_7); (try clear hfz7_0); (try clear hfz7_1); (try clear hfz7_2); (try clear hfz7_3); (try clear hfz7_4); (try clear hfz7_5); (try clear hfz7_6); (try clear hfz7_7); (try clear hfz9_0); (try clear hfz9_1); (try clear hfz9_2); (try clear hfz9_3); (try clear hfz9_4); (try clear hfz9_5); (try clear hfz9_6); (try clear hfz9_7)
  obtain ⟨kq, x40_1, rfl, HA, HJ1, BK537, HB⟩ := hcut
  cases kq with
  | zero => exact absurd HA.out (by simp [prebendref13_Encode.j0])
  | succ kj1 =>
   have H := HA.out
   clear HA
   simp only [prebendref13_Encode.j0] at H
   by_cases c13 : x40_1 = true
   ·subst c13
    have H1 : (some (([] : List Int), 3)) = some (r1, r2) := by rw [if_pos rfl] at H; exact H
    clear H
    have H := H1
    clear H1
    simp only [Option.some.injEq, Prod.mk.injEq] at H
    obtain ⟨rfl, rfl⟩ := H
    go_wp2
    go_ret2
    exact ⟨_, by first | rfl | (simp [errW_none, errW_some] <;> rfl) | (simp [*, errW_none, errW_some] <;> rfl), by first | exact Kd.R_nil _ _ _ _ _ | exact Kd.N_nil _ _ _ _ _ | exact Kd.V_nil _ _ _ _ _ | exact Kd.Q_nil _ _ _ _ _ | exact Kd.S_nil _ _ _ _ _, by repeat (first | (with_reducible first | exact HB.out | apply below_alloc | apply pw_below_drewN | apply below_drew1 | refine below_set ?_ GE537.out) | exact HB.out)⟩
   ·replace c13 := Bool.eq_false_iff.mpr c13
    subst c13
    have H1 : ((prebendref13_nums.f kj1 ([] : List Int) (([a0_0, a0_1, a0_2, (l0_3.length : Int)] : List Int))).bind fun t541 => (prebendref13_Encode.l0 kj1 t541 0 a0_0 a0_1 a0_2 l0_3 l0_4 l0_5 l0_6 l0_7)) = some (r1, r2) := by rw [if_neg (show ¬ (false = true) by decide)] at H; exact H
    clear H
    have H := H1
    clear H1
    obtain ⟨y538, hy538⟩ : ∃ y_ : List Int, y_ = (([a0_0, a0_1, a0_2, (l0_3.length : Int)] : List Int)) := ⟨_, rfl⟩
    replace H : ((prebendref13_nums.f kj1 ([] : List Int) y538).bind fun t541 => (prebendref13_Encode.l0 kj1 t541 0 a0_0 a0_1 a0_2 l0_3 l0_4 l0_5 l0_6 l0_7)) = some (r1, r2) := mH hy538 H
    have Ny538 := Aside0.mk hy538
    clear hy538
    replace H := Option.bind_eq_some_iff.mp H
    obtain ⟨t541, A140, H⟩ := H
    replace H : (prebendref13_Encode.l0 kj1 t541 0 a0_0 a0_1 a0_2 l0_3 l0_4 l0_5 l0_6 l0_7) = some (r1, r2) := H
    have A14 := Aside0.mk A140
    clear A140
    have H' := Aside0.mk H
    clear H
    have hcz15_0 : wc.cell? ⟨gb537, 0, none⟩ = some (.int .i64 a0_0) := (blk_cell BK537.out 0).trans rfl
    have hcz15_1 : wc.cell? ⟨gb537, 1, none⟩ = some (.int .i64 a0_1) := (blk_cell BK537.out 1).trans rfl
    have hcz15_2 : wc.cell? ⟨gb537, 2, none⟩ = some (.int .i64 a0_2) := (blk_cell BK537.out 2).trans rfl
    have hcz15_3 : wc.cell? ⟨gb537, 3, none⟩ = some (.slice A0_3 l0_3.length c0_3) := (blk_cell BK537.out 3).trans rfl
    have hcz15_4 : wc.cell? ⟨gb537, 4, none⟩ = some (.slice A0_4 l0_4.length c0_4) := (blk_cell BK537.out 4).trans rfl
    have hcz15_5 : wc.cell? ⟨gb537, 5, none⟩ = some (.slice A0_5 l0_5.length c0_5) := (blk_cell BK537.out 5).trans rfl
    have hcz15_6 : wc.cell? ⟨gb537, 6, none⟩ = some (.slice A0_6 l0_6.length c0_6) := (blk_cell BK537.out 6).trans rfl
    have hcz15_7 : wc.cell? ⟨gb537, 7, none⟩ = some (.slice A0_7 l0_7.length c0_7) := (blk_cell BK537.out 7).trans rfl
    have hfz15_0 := blk_frozen BK537.out 0
    have hfz15_1 := blk_frozen BK537.out 1
    have hfz15_2 := blk_frozen BK537.out 2
    have hfz15_3 := blk_frozen BK537.out 3
    have hfz15_4 := blk_frozen BK537.out 4
    have hfz15_5 := blk_frozen BK537.out 5
    have hfz15_6 := blk_frozen BK537.out 6
    have hfz15_7 := blk_frozen BK537.out 7
    go_wp2_with (first | ((with_reducible refine gate_dst (N := 50) rfl ?_); (try (refine gate_guard (by rfl) ?_; dsimp only)); refine Kd.R_lit (Kd.int .i64) _ 3 ?hg (N := 50) ?hd (xs := ([a0_0, a0_1, a0_2, (l0_3.length : Int)] : List Int)) (inner := [.int .i64 a0_0, .int .i64 a0_1, .int .i64 a0_2, .int .i64 (l0_3.length : Int)]) (ok := fun _ => True) (okp := fun _ => True) ?hr ?hp (fun _ hk => hk) trivial (Below.refl _ _) (Nat.le_refl _) (by simp) ?_; (case hd => rfl); (case hg => rfl); (case hr => first | (go_simp; done) | (go_simp; rfl)); (case hp => exact (Reps.one (show Kd.M (Kd.int .i64) _ _ _ a0_0 [.int .i64 a0_0] from rfl) (Reps.one (show Kd.M (Kd.int .i64) _ _ _ a0_1 [.int .i64 a0_1] from rfl) (Reps.one (show Kd.M (Kd.int .i64) _ _ _ a0_2 [.int .i64 a0_2] from rfl) (Reps.one (show Kd.M (Kd.int .i64) _ _ _ (l0_3.length : Int) [.int .i64 (l0_3.length : Int)] from rfl) (Reps.none _ _)))))); intro v539 w16 ho17 hb hg_ hnew_; clear hg_ hnew_; (first | rw [← Ny538.out] at ho17 | (simp only [Int.reduceToNat] at ho17; rw [← Ny538.out] at ho17)); have n0_ := Aside0.mk (Kd.R_lower ho17 (below_size (mBs HB.out))); have n1_ := Aside0.mk (blk_below (g := gb537) (o := .cells #[.int .i64 a0_0, .int .i64 a0_1, .int .i64 a0_2, .slice A0_3 l0_3.length c0_3, .slice A0_4 l0_4.length c0_4, .slice A0_5 l0_5.length c0_5, .slice A0_6 l0_6.length c0_6, .slice A0_7 l0_7.length c0_7] 67 (0, 0)) (mBK BK537.out) hb); have n2_ := Aside0.mk (below_step (mBs HB.out) hb); clear BK537; clear HB; have HO540 := n0_; have BK537 := n1_; have HB := n2_; clear n0_ n1_ n2_; clear hb ho17; obtain ⟨Ao18, co18, eo18⟩ := Kd.R_slice HO540.out; subst eo18) | ((with_reducible refine gate_callee (f := 51) rfl ?_); refine goesL_ (some 51) rfl rfl Try.func51 (by kernel_rfl) rfl #[.slice none 0 0, .slice Ao18 y538.length co18] rfl mt ?_; (refine (prebendref13_nums.calls kj1 (fun k_ => some k_ = (.slice none 0 0 : Value).ownBlock) (.slice none 0 0) ([] : List Int) _ _ y538 t541 w _ ?side1 ?side2 ?side3 ?side4 A14.out).mono ?_); (case side1 => repeat (first | (with_reducible first | exact HB.out | apply below_alloc | apply pw_below_drewN | apply below_drew1 | refine below_set ?_ GE537.out) | exact HB.out)); (case side2 => exact Kd.R_nil _ _ _ _ _); (case side3 => exact Kd.C_kept_own (HO540.out) (fun k_ hk_ hs_ => (fun e_ => by simp [Value.ownBlock] at e_) hs_)); (case side4 => exact (Kd.R_reads' HO540.out).2.1); rintro e w19 ⟨v542, rfl, ho0, hb, hkp⟩; refine ⟨_, rfl, ?_⟩; have n0_ := Aside0.mk (blk_kept (mBK BK537.out) hkp (fun hs_ => (fun e_ => by simp [Value.ownBlock] at e_) hs_)); have n1_ := Aside0.mk (Kd.R_mono (ok' := fun k_ => True) (Kd.R_keptB (HO540.out) hkp (fun k_ hk_ hs_ => (fun e_ => by simp [Value.ownBlock] at e_) hs_)) (fun k_ hk_ => trivial)); have n2_ := Aside0.mk (Kd.R_mono (ok' := fun k_ => True) ho0 (fun k_ hk_ => trivial)); have n3_ := Aside0.mk (hb); clear BK537; clear HO540; clear HB; have BK537 := n0_; have HO540 := n1_; have HO543 := n2_; have HB := n3_; clear n0_ n1_ n2_ n3_; (try clear hb); (try clear hkp); (try clear ho0)))
    go_loopg [4, 5] kj1 (fun kq v4 v5 w' => ∃ (x4_2 : List Int) (x5_2 : Int), v5 = .int .i64 x5_2 ∧ Aside0 (prebendref13_Encode.l0 kq x4_2 x5_2 a0_0 a0_1 a0_2 l0_3 l0_4 l0_5 l0_6 l0_7 = some (r1, r2)) ∧ Aside0 (kq ≤ kj1) ∧ Aside0 (Kd.R (Kd.int .u8) 5 w' w.heap.size (fun _ => True) v4 x4_2) ∧ Aside0 (w'.heap[gb537]? = some (.cells #[.int .i64 a0_0, .int .i64 a0_1, .int .i64 a0_2, (.slice A0_3 l0_3.length c0_3), (.slice A0_4 l0_4.length c0_4), (.slice A0_5 l0_5.length c0_5), (.slice A0_6 l0_6.length c0_6), (.slice A0_7 l0_7.length c0_7)] 67 (0, 0))) ∧ Aside0 (Below w.heap.size w w'))
    case atStart => exact ⟨(t541), (0), ez, H', ⟨Nat.le_refl _⟩, ⟨mR HO543.out⟩, ⟨mBK BK537.out⟩, ⟨mBs HB.out⟩⟩
    case round =>
     clear H'
     (try clear c1); (try clear p2); (try clear c3); (try clear c4); (try clear c4b0); (try clear c4b1); (try clear c5); (try clear c6); (try clear c6b0); (try clear c6b1); (try clear c8); (try clear c8b0); (try clear c8b1); (try clear c10); (try clear c10b0); (try clear c10b1); (try clear c13); (try clear hcz11_0); (try clear hcz11_1); (try clear hcz11_2); (try clear hcz11_3); (try clear hcz11_4); (try clear hcz11_5); (try clear hcz11_6); (try clear hcz11_7); (try clear hcz12_0); (try clear hcz12_1); (try clear hcz12_2); (try clear hcz12_3); (try clear hcz12_4); (try clear hcz12_5); (try clear hcz12_6); (try clear hcz12_7); (try clear hcz15_0); (try clear hcz15_1); (try clear hcz15_2); (try clear hcz15_3); (try clear hcz15_4); (try clear hcz15_5); (try clear hcz15_6); (try clear hcz15_7); (try clear hcz5_0); (try clear hcz5_1); (try clear hcz5_2); (try clear hcz5_3); (try clear hcz5_4); (try clear hcz5_5); (try clear hcz5_6); (try clear hcz5_7); (try clear hcz7_0); (try clear hcz7_1); (try clear hcz7_2); (try clear hcz7_3); (try clear hcz7_4); (try clear hcz7_5); (try clear hcz7_6); (try clear hcz7_7); (try clear hcz9_0); (try clear hcz9_1); (try clear hcz9_2); (try clear hcz9_3); (try clear hcz9_4); (try clear hcz9_5); (try clear hcz9_6); (try clear hcz9_7); (try clear hfz11_0); (try clear hfz11_1); (try clear hfz11_2); (try clear hfz11_3); (try clear hfz11_4); (try clear hfz11_5); (try clear hfz11_6); (try clear hfz11_7); (try clear hfz12_0); (try clear hfz12_1); (try clear hfz12_2); (try clear hfz12_3); (try clear hfz12_4); (try clear hfz12_5); (try clear hfz12_6); (try clear hfz12_7); (try clear hfz15_0); (try clear hfz15_1); (try clear hfz15_2); (try clear hfz15_3); (try clear hfz15_4); (try clear hfz15_5); (try clear hfz15_6); (try clear hfz15_7); (try clear hfz5_0); (try clear hfz5_1); (try clear hfz5_2); (try clear hfz5_3); (try clear hfz5_4); (try clear hfz5_5); (try clear hfz5_6); (try clear hfz5_7); (try clear hfz7_0); (try clear hfz7_1); (try clear hfz7_2); (try clear hfz7_3); (try clear hfz7_4); (try clear hfz7_5); (try clear hfz7_6); (try clear hfz7_7); (try clear hfz9_0); (try clear hfz9_1); (try clear hfz9_2); (try clear hfz9_3); (try clear hfz9_4); (try clear hfz9_5); (try clear hfz9_6); (try clear hfz9_7); (try clear p2)
     obtain ⟨x4_2, x5_2, rfl, HA, HK2, HO_4, BK537, HB⟩ := hrel
     cases gk with
     | zero => exact absurd HA.out (by simp [prebendref13_Encode.l0])
     | succ k2 =>
      have H := HA.out
      clear HA
      simp only [prebendref13_Encode.l0] at H
      by_cases c20 : x5_2 < (l0_3.length : Int)
      ·rw [if_pos c20] at H
       have c20b0 : decide (x5_2 < (l0_3.length : Int)) = true := decide_eq_true c20
       clear c20
       by_cases c21 : 0 ≤ x5_2
       ·rw [if_pos c21] at H
        have c21b0 : decide (0 ≤ x5_2) = true := decide_eq_true c21
        clear c21
        by_cases c22 : (((rd_T93 l0_3 x5_2).f0).size : Int) > 16
        ·rw [if_pos c22] at H
         have c22b0 : decide (16 < (((rd_T93 l0_3 x5_2).f0).size : Int)) = true := decide_eq_true c22
         have c22b1 : decide (16 < ((rd_T93 l0_3 x5_2).f0).size) = true := decide_eq_true (by omega)
         clear c22
         simp only [Option.some.injEq, Prod.mk.injEq] at H
         obtain ⟨rfl, rfl⟩ := H
         have hcz23_0 : wr.cell? ⟨gb537, 0, none⟩ = some (.int .i64 a0_0) := (blk_cell BK537.out 0).trans rfl
         have hcz23_1 : wr.cell? ⟨gb537, 1, none⟩ = some (.int .i64 a0_1) := (blk_cell BK537.out 1).trans rfl
         have hcz23_2 : wr.cell? ⟨gb537, 2, none⟩ = some (.int .i64 a0_2) := (blk_cell BK537.out 2).trans rfl
         have hcz23_3 : wr.cell? ⟨gb537, 3, none⟩ = some (.slice A0_3 l0_3.length c0_3) := (blk_cell BK537.out 3).trans rfl
         have hcz23_4 : wr.cell? ⟨gb537, 4, none⟩ = some (.slice A0_4 l0_4.length c0_4) := (blk_cell BK537.out 4).trans rfl
         have hcz23_5 : wr.cell? ⟨gb537, 5, none⟩ = some (.slice A0_5 l0_5.length c0_5) := (blk_cell BK537.out 5).trans rfl
         have hcz23_6 : wr.cell? ⟨gb537, 6, none⟩ = some (.slice A0_6 l0_6.length c0_6) := (blk_cell BK537.out 6).trans rfl
         have hcz23_7 : wr.cell? ⟨gb537, 7, none⟩ = some (.slice A0_7 l0_7.length c0_7) := (blk_cell BK537.out 7).trans rfl
         have hfz23_0 := blk_frozen BK537.out 0
         have hfz23_1 := blk_frozen BK537.out 1
         have hfz23_2 := blk_frozen BK537.out 2
         have hfz23_3 := blk_frozen BK537.out 3
         have hfz23_4 := blk_frozen BK537.out 4
         have hfz23_5 := blk_frozen BK537.out 5
         have hfz23_6 := blk_frozen BK537.out 6
         have hfz23_7 := blk_frozen BK537.out 7
         have p544 : 0 ≤ (x5_2 : Int) := oda
         have q544 : x5_2 < (l0_3.length : Int) := oda
         obtain ⟨ad544, e544, hx544_0, hx544_1, hx544_2⟩ := at_T93 HR0_3.out x5_2 p544 q544
         cases e544
         replace hx544_0 := (HB.out.cell (World.block_lt_of_cell? w _ hx544_0)).trans hx544_0
         replace hx544_1 := (HB.out.cell (World.block_lt_of_cell? w _ hx544_1)).trans hx544_1
         replace hx544_2 := (HB.out.cell (World.block_lt_of_cell? w _ hx544_2)).trans hx544_2
         replace p544 := eq_true p544
         replace q544 := eq_true q544
         go_wp2
         go_ret2
         exact ⟨_, by first | rfl | (simp [errW_none, errW_some] <;> rfl) | (simp [*, errW_none, errW_some] <;> rfl), by first | exact Kd.R_nil _ _ _ _ _ | exact Kd.N_nil _ _ _ _ _ | exact Kd.V_nil _ _ _ _ _ | exact Kd.Q_nil _ _ _ _ _ | exact Kd.S_nil _ _ _ _ _, by repeat (first | (with_reducible first | exact HB.out | apply below_alloc | apply pw_below_drewN | apply below_drew1 | refine below_set ?_ GE537.out) | exact HB.out)⟩
        ·rw [if_neg c22] at H
         have c22b0 : decide (16 < (((rd_T93 l0_3 x5_2).f0).size : Int)) = false := decide_eq_false c22
         have c22b1 : decide (16 < ((rd_T93 l0_3 x5_2).f0).size) = false := decide_eq_false (by omega)
         clear c22
         replace H := Option.bind_eq_some_iff.mp H
         obtain ⟨t546, A240, H⟩ := H
         replace H : ((prebendref13_nums.f k2 t546 (([(rd_T93 l0_3 x5_2).f1, (rd_T93 l0_3 x5_2).f2] : List Int))).bind fun t554 => (prebendref13_Encode.l0 k2 t554 (wrap64 (x5_2 + 1)) a0_0 a0_1 a0_2 l0_3 l0_4 l0_5 l0_6 l0_7)) = some (r1, r2) := H
         have A24 := Aside0.mk A240
         clear A240
         obtain ⟨y551, hy551⟩ : ∃ y_ : List Int, y_ = (([(rd_T93 l0_3 x5_2).f1, (rd_T93 l0_3 x5_2).f2] : List Int)) := ⟨_, rfl⟩
         replace H : ((prebendref13_nums.f k2 t546 y551).bind fun t554 => (prebendref13_Encode.l0 k2 t554 (wrap64 (x5_2 + 1)) a0_0 a0_1 a0_2 l0_3 l0_4 l0_5 l0_6 l0_7)) = some (r1, r2) := mH hy551 H
         have Ny551 := Aside0.mk hy551
         clear hy551
         replace H := Option.bind_eq_some_iff.mp H
         obtain ⟨t554, A250, H⟩ := H
         replace H : (prebendref13_Encode.l0 k2 t554 (wrap64 (x5_2 + 1)) a0_0 a0_1 a0_2 l0_3 l0_4 l0_5 l0_6 l0_7) = some (r1, r2) := H
         have A25 := Aside0.mk A250
         clear A250
         have H' := Aside0.mk H
         clear H
         have hcz26_0 : wr.cell? ⟨gb537, 0, none⟩ = some (.int .i64 a0_0) := (blk_cell BK537.out 0).trans rfl
         have hcz26_1 : wr.cell? ⟨gb537, 1, none⟩ = some (.int .i64 a0_1) := (blk_cell BK537.out 1).trans rfl
         have hcz26_2 : wr.cell? ⟨gb537, 2, none⟩ = some (.int .i64 a0_2) := (blk_cell BK537.out 2).trans rfl
         have hcz26_3 : wr.cell? ⟨gb537, 3, none⟩ = some (.slice A0_3 l0_3.length c0_3) := (blk_cell BK537.out 3).trans rfl
         have hcz26_4 : wr.cell? ⟨gb537, 4, none⟩ = some (.slice A0_4 l0_4.length c0_4) := (blk_cell BK537.out 4).trans rfl
         have hcz26_5 : wr.cell? ⟨gb537, 5, none⟩ = some (.slice A0_5 l0_5.length c0_5) := (blk_cell BK537.out 5).trans rfl
         have hcz26_6 : wr.cell? ⟨gb537, 6, none⟩ = some (.slice A0_6 l0_6.length c0_6) := (blk_cell BK537.out 6).trans rfl
         have hcz26_7 : wr.cell? ⟨gb537, 7, none⟩ = some (.slice A0_7 l0_7.length c0_7) := (blk_cell BK537.out 7).trans rfl
         have hfz26_0 := blk_frozen BK537.out 0
         have hfz26_1 := blk_frozen BK537.out 1
         have hfz26_2 := blk_frozen BK537.out 2
         have hfz26_3 := blk_frozen BK537.out 3
         have hfz26_4 := blk_frozen BK537.out 4
         have hfz26_5 := blk_frozen BK537.out 5
         have hfz26_6 := blk_frozen BK537.out 6
         have hfz26_7 := blk_frozen BK537.out 7
         have p544 : 0 ≤ (x5_2 : Int) := oda
         have q544 : x5_2 < (l0_3.length : Int) := oda
         obtain ⟨ad544, e544, hx544_0, hx544_1, hx544_2⟩ := at_T93 HR0_3.out x5_2 p544 q544
         cases e544
         replace hx544_0 := (HB.out.cell (World.block_lt_of_cell? w _ hx544_0)).trans hx544_0
         replace hx544_1 := (HB.out.cell (World.block_lt_of_cell? w _ hx544_1)).trans hx544_1
         replace hx544_2 := (HB.out.cell (World.block_lt_of_cell? w _ hx544_2)).trans hx544_2
         replace p544 := eq_true p544
         replace q544 := eq_true q544
         obtain ⟨Ao27, co27, eo27⟩ := Kd.R_slice HO_4.out
         subst eo27
         try go_wp2
         have n0_ := Aside0.mk (Kd.R_drew HO_4.out)
         have n1_ := Aside0.mk (blk_drew BK537.out)
         have n2_ := Aside0.mk (below_drew1 HB.out)
         clear HO_4; clear BK537; clear HB
         have HO_4 := n0_
         have BK537 := n1_
         have HB := n2_
         clear n0_; clear n1_; clear n2_
         have p545 : 0 ≤ (x5_2 : Int) := oda
         have q545 : x5_2 < (l0_3.length : Int) := oda
         obtain ⟨ad545, e545, hx545_0, hx545_1, hx545_2⟩ := at_T93 HR0_3.out x5_2 p545 q545
         have hw545_2 := hx545_2
         have hw545_1 := hx545_1
         have hw545_0 := hx545_0
         obtain rfl : ad544 = ad545 := (by injection e545)
         replace hx545_0 := (HB.out.cell (World.block_lt_of_cell? w _ hx545_0)).trans hx545_0
         replace hx545_1 := (HB.out.cell (World.block_lt_of_cell? w _ hx545_1)).trans hx545_1
         replace hx545_2 := (HB.out.cell (World.block_lt_of_cell? w _ hx545_2)).trans hx545_2
         replace p545 := eq_true p545
         replace q545 := eq_true q545
         have p549 : 0 ≤ (x5_2 : Int) := oda
         have q549 : x5_2 < (l0_3.length : Int) := oda
         obtain ⟨ad549, e549, hx549_0, hx549_1, hx549_2⟩ := at_T93 HR0_3.out x5_2 p549 q549
         have hw549_2 := hx549_2
         have hw549_1 := hx549_1
         have hw549_0 := hx549_0
         obtain rfl : ad544 = ad549 := (by injection e549)
         replace hx549_0 := (HB.out.cell (World.block_lt_of_cell? w _ hx549_0)).trans hx549_0
         replace hx549_1 := (HB.out.cell (World.block_lt_of_cell? w _ hx549_1)).trans hx549_1
         replace hx549_2 := (HB.out.cell (World.block_lt_of_cell? w _ hx549_2)).trans hx549_2
         replace p549 := eq_true p549
         replace q549 := eq_true q549
         have p550 : 0 ≤ (x5_2 : Int) := oda
         have q550 : x5_2 < (l0_3.length : Int) := oda
         obtain ⟨ad550, e550, hx550_0, hx550_1, hx550_2⟩ := at_T93 HR0_3.out x5_2 p550 q550
         have hw550_2 := hx550_2
         have hw550_1 := hx550_1
         have hw550_0 := hx550_0
         obtain rfl : ad544 = ad550 := (by injection e550)
         replace hx550_0 := (HB.out.cell (World.block_lt_of_cell? w _ hx550_0)).trans hx550_0
         replace hx550_1 := (HB.out.cell (World.block_lt_of_cell? w _ hx550_1)).trans hx550_1
         replace hx550_2 := (HB.out.cell (World.block_lt_of_cell? w _ hx550_2)).trans hx550_2
         replace p550 := eq_true p550
         replace q550 := eq_true q550
         refine start_ (n := 23) (S := fun w' => w'.cell? ⟨gb537, 0, none⟩ = some (.int .i64 a0_0) ∧ w'.cell? ⟨gb537, 1, none⟩ = some (.int .i64 a0_1) ∧ w'.cell? ⟨gb537, 2, none⟩ = some (.int .i64 a0_2) ∧ w'.cell? ⟨gb537, 3, none⟩ = some (.slice (some ad544) l0_3.length c0_3) ∧ w'.cell? ⟨gb537, 4, none⟩ = some (.slice A0_4 l0_4.length c0_4) ∧ w'.cell? ⟨gb537, 5, none⟩ = some (.slice A0_5 l0_5.length c0_5) ∧ w'.cell? ⟨gb537, 6, none⟩ = some (.slice A0_6 l0_6.length c0_6) ∧ w'.cell? ⟨gb537, 7, none⟩ = some (.slice A0_7 l0_7.length c0_7) ∧ w'.cell? (ad544.add ((x5_2).toNat * 3)) = some (.string ((rd_T93 l0_3 x5_2).f0)) ∧ w'.cell? ⟨(ad544.add ((x5_2).toNat * 3)).block, (ad544.add ((x5_2).toNat * 3)).off + 1, none⟩ = some (.int .i64 ((rd_T93 l0_3 x5_2).f1)) ∧ w'.cell? ⟨(ad544.add ((x5_2).toNat * 3)).block, (ad544.add ((x5_2).toNat * 3)).off + 2, none⟩ = some (.int .i64 ((rd_T93 l0_3 x5_2).f2)) ∧ w'.cell? (ad544.add ((x5_2).toNat * 3)) = some (.string ((rd_T93 l0_3 x5_2).f0)) ∧ w'.cell? ⟨(ad544.add ((x5_2).toNat * 3)).block, (ad544.add ((x5_2).toNat * 3)).off + 1, none⟩ = some (.int .i64 ((rd_T93 l0_3 x5_2).f1)) ∧ w'.cell? ⟨(ad544.add ((x5_2).toNat * 3)).block, (ad544.add ((x5_2).toNat * 3)).off + 2, none⟩ = some (.int .i64 ((rd_T93 l0_3 x5_2).f2)) ∧ w'.cell? (ad544.add ((x5_2).toNat * 3)) = some (.string ((rd_T93 l0_3 x5_2).f0)) ∧ w'.cell? ⟨(ad544.add ((x5_2).toNat * 3)).block, (ad544.add ((x5_2).toNat * 3)).off + 1, none⟩ = some (.int .i64 ((rd_T93 l0_3 x5_2).f1)) ∧ w'.cell? ⟨(ad544.add ((x5_2).toNat * 3)).block, (ad544.add ((x5_2).toNat * 3)).off + 2, none⟩ = some (.int .i64 ((rd_T93 l0_3 x5_2).f2))) (ds := []) #[false, false, false, false, false, false, false, false, false, false, false, false, false, false, false, false, false, false, false, false, false, false, false] (by kernel_rfl) rfl rfl ⟨(blk_cell BK537.out 0).trans rfl, (blk_cell BK537.out 1).trans rfl, (blk_cell BK537.out 2).trans rfl, (blk_cell BK537.out 3).trans rfl, (blk_cell BK537.out 4).trans rfl, (blk_cell BK537.out 5).trans rfl, (blk_cell BK537.out 6).trans rfl, (blk_cell BK537.out 7).trans rfl, ((HB.out.cell (World.block_lt_of_cell? w _ hw545_0)).trans hw545_0), ((HB.out.cell (World.block_lt_of_cell? w _ hw545_1)).trans hw545_1), ((HB.out.cell (World.block_lt_of_cell? w _ hw545_2)).trans hw545_2), ((HB.out.cell (World.block_lt_of_cell? w _ hw549_0)).trans hw549_0), ((HB.out.cell (World.block_lt_of_cell? w _ hw549_1)).trans hw549_1), ((HB.out.cell (World.block_lt_of_cell? w _ hw549_2)).trans hw549_2), ((HB.out.cell (World.block_lt_of_cell? w _ hw550_0)).trans hw550_0), ((HB.out.cell (World.block_lt_of_cell? w _ hw550_1)).trans hw550_1), ((HB.out.cell (World.block_lt_of_cell? w _ hw550_2)).trans hw550_2)⟩ (fun hHeld => ?_); refine with_tabW prebendref13_Encode.tab9 prebendref13_Encode.bits9 (fun HT_ HW_ => ?_)
         generalize wr.drew = w28 at HO_4 BK537 HB hx545_0 hx545_1 hx545_2 hx549_0 hx549_1 hx549_2 hx550_0 hx550_1 hx550_2 hHeld ⊢
         refine plan_ [(0, 67), (1, 68), (3, 70), (8, 75), (10, 77), (14, 81), (16, 83)] ?_
         iterate 7 (refine planP_ (v := ?_) (a' := ?_) rfl rfl (any_of HT_.out (by kernel_rfl)) (fun _ _ _ h => h) (Or.inl ⟨by rfl, ?_⟩) ?_ ?_; rotate_left; (intro w'; go_simp; with_reducible rfl); rotate_left; (simp only [Act.put, List.setIfInBounds_toArray, List.set_cons_zero, List.set_cons_succ, i64_w, i32_w]; rfl))
         refine planEnd_ ?_
         refine plan_ [(2, 69)] ?_
         refine planT_ (v := ?_) (a' := ?_) rfl rfl (take_ofW HT_.out HW_.out (by kernel_rfl)) (fun _ _ _ h => h) (Or.inl ⟨by rfl, ?_⟩) hHeld ?_ ?_; rotate_left; (rintro w' ⟨s0, s1, s2, s3, s4, s5, s6, s7, s8, s9, s10, s11, s12, s13, s14, s15, s16⟩; go_simp; with_reducible rfl); rotate_left; (simp only [Act.put, List.setIfInBounds_toArray, List.set_cons_zero, List.set_cons_succ, i64_w, i32_w]; rfl)
         refine planEnd_ ?_
         refine plan_ [(4, 71), (5, 72)] ?_
         iterate 2 (refine planP_ (v := ?_) (a' := ?_) rfl rfl (any_of HT_.out (by kernel_rfl)) (fun _ _ _ h => h) (Or.inl ⟨by rfl, ?_⟩) ?_ ?_; rotate_left; (intro w'; go_simp; with_reducible rfl); rotate_left; (simp only [Act.put, List.setIfInBounds_toArray, List.set_cons_zero, List.set_cons_succ, i64_w, i32_w]; rfl))
         refine planEnd_ ?_
         refine plan_ [(6, 73), (9, 76)] ?_
         iterate 2 (refine planT_ (v := ?_) (a' := ?_) rfl rfl (take_ofW HT_.out HW_.out (by kernel_rfl)) (fun _ _ _ h => h) (Or.inl ⟨by rfl, ?_⟩) hHeld ?_ ?_; rotate_left; (rintro w' ⟨s0, s1, s2, s3, s4, s5, s6, s7, s8, s9, s10, s11, s12, s13, s14, s15, s16⟩; go_simp; with_reducible rfl); rotate_left; (simp only [Act.put, List.setIfInBounds_toArray, List.set_cons_zero, List.set_cons_succ, i64_w, i32_w]; rfl))
         refine planEnd_ ?_
         refine plan_ [(11, 78), (12, 79)] ?_
         iterate 2 (refine planP_ (v := ?_) (a' := ?_) rfl rfl (any_of HT_.out (by kernel_rfl)) (fun _ _ _ h => h) (Or.inl ⟨by rfl, ?_⟩) ?_ ?_; rotate_left; (intro w'; go_simp; with_reducible rfl); rotate_left; (simp only [Act.put, List.setIfInBounds_toArray, List.set_cons_zero, List.set_cons_succ, i64_w, i32_w]; rfl))
         refine planEnd_ ?_
         refine plan_ [(13, 80), (15, 82)] ?_
         iterate 2 (refine planT_ (v := ?_) (a' := ?_) rfl rfl (take_ofW HT_.out HW_.out (by kernel_rfl)) (fun _ _ _ h => h) (Or.inl ⟨by rfl, ?_⟩) hHeld ?_ ?_; rotate_left; (rintro w' ⟨s0, s1, s2, s3, s4, s5, s6, s7, s8, s9, s10, s11, s12, s13, s14, s15, s16⟩; go_simp; with_reducible rfl); rotate_left; (simp only [Act.put, List.setIfInBounds_toArray, List.set_cons_zero, List.set_cons_succ, i64_w, i32_w]; rfl))
         refine planEnd_ ?_
         refine plan_ [(17, 84), (18, 85)] ?_
         iterate 2 (refine planP_ (v := ?_) (a' := ?_) rfl rfl (any_of HT_.out (by kernel_rfl)) (fun _ _ _ h => h) (Or.inl ⟨by rfl, ?_⟩) ?_ ?_; rotate_left; (intro w'; go_simp; with_reducible rfl); rotate_left; (simp only [Act.put, List.setIfInBounds_toArray, List.set_cons_zero, List.set_cons_succ, i64_w, i32_w]; rfl))
         refine planEnd_ ?_
         refine plan_ [(19, 86)] ?_
         refine planT_ (v := ?_) (a' := ?_) rfl rfl (take_ofW HT_.out HW_.out (by kernel_rfl)) (fun _ _ _ h => h) (Or.inl ⟨by rfl, ?_⟩) hHeld ?_ ?_; rotate_left; (rintro w' ⟨s0, s1, s2, s3, s4, s5, s6, s7, s8, s9, s10, s11, s12, s13, s14, s15, s16⟩; go_simp; with_reducible rfl); rotate_left; (simp only [Act.put, List.setIfInBounds_toArray, List.set_cons_zero, List.set_cons_succ, i64_w, i32_w]; rfl)
         refine planEnd_ ?_
         refine join_ (σ := Value × Value) 2 #[true, true, true, true, true, true, true, true, true, true, true, true, true, true, true, true, true, true, true, true, true, false, false] (fun s_ => [(74, s_.1), (87, s_.2)]) (fun s_ w' => (w'.cell? ⟨gb537, 0, none⟩ = some (.int .i64 a0_0) ∧ w'.cell? ⟨gb537, 1, none⟩ = some (.int .i64 a0_1) ∧ w'.cell? ⟨gb537, 2, none⟩ = some (.int .i64 a0_2) ∧ w'.cell? ⟨gb537, 3, none⟩ = some (.slice (some ad544) l0_3.length c0_3) ∧ w'.cell? ⟨gb537, 4, none⟩ = some (.slice A0_4 l0_4.length c0_4) ∧ w'.cell? ⟨gb537, 5, none⟩ = some (.slice A0_5 l0_5.length c0_5) ∧ w'.cell? ⟨gb537, 6, none⟩ = some (.slice A0_6 l0_6.length c0_6) ∧ w'.cell? ⟨gb537, 7, none⟩ = some (.slice A0_7 l0_7.length c0_7) ∧ w'.cell? (ad544.add ((x5_2).toNat * 3)) = some (.string ((rd_T93 l0_3 x5_2).f0)) ∧ w'.cell? ⟨(ad544.add ((x5_2).toNat * 3)).block, (ad544.add ((x5_2).toNat * 3)).off + 1, none⟩ = some (.int .i64 ((rd_T93 l0_3 x5_2).f1)) ∧ w'.cell? ⟨(ad544.add ((x5_2).toNat * 3)).block, (ad544.add ((x5_2).toNat * 3)).off + 2, none⟩ = some (.int .i64 ((rd_T93 l0_3 x5_2).f2)) ∧ w'.cell? (ad544.add ((x5_2).toNat * 3)) = some (.string ((rd_T93 l0_3 x5_2).f0)) ∧ w'.cell? ⟨(ad544.add ((x5_2).toNat * 3)).block, (ad544.add ((x5_2).toNat * 3)).off + 1, none⟩ = some (.int .i64 ((rd_T93 l0_3 x5_2).f1)) ∧ w'.cell? ⟨(ad544.add ((x5_2).toNat * 3)).block, (ad544.add ((x5_2).toNat * 3)).off + 2, none⟩ = some (.int .i64 ((rd_T93 l0_3 x5_2).f2)) ∧ w'.cell? (ad544.add ((x5_2).toNat * 3)) = some (.string ((rd_T93 l0_3 x5_2).f0)) ∧ w'.cell? ⟨(ad544.add ((x5_2).toNat * 3)).block, (ad544.add ((x5_2).toNat * 3)).off + 1, none⟩ = some (.int .i64 ((rd_T93 l0_3 x5_2).f1)) ∧ w'.cell? ⟨(ad544.add ((x5_2).toNat * 3)).block, (ad544.add ((x5_2).toNat * 3)).off + 2, none⟩ = some (.int .i64 ((rd_T93 l0_3 x5_2).f2))) ∧ (Kd.R (Kd.int .u8) 5 w' w.heap.size (fun k_ => some k_ ≠ (.slice Ao27 x4_2.length co27 : Value).ownBlock) s_.1 t546) ∧ (Kd.R (Kd.int .i64) 3 w' w.heap.size (fun _ => True) s_.2 y551) ∧ (Kd.R (Kd.int .u8) 5 w' w.heap.size (fun k_ => some k_ ≠ (s_.1 : Value).ownBlock) (.slice Ao27 x4_2.length co27) x4_2) ∧ (w'.heap[gb537]? = some (.cells #[.int .i64 a0_0, .int .i64 a0_1, .int .i64 a0_2, .slice (some ad544) l0_3.length c0_3, .slice A0_4 l0_4.length c0_4, .slice A0_5 l0_5.length c0_5, .slice A0_6 l0_6.length c0_6, .slice A0_7 l0_7.length c0_7] 67 (0, 0))) ∧ (Below w.heap.size w w')) ?_ ?_
         rotate_left
         ·intro hCont
          refine two_ (i := 7) (j := 20) (Ni := some 74) (Nj := some 87) #[true, true, true, true, true, true, true, true, true, true, true, true, true, true, true, true, true, true, true, true, false, false, false] #[true, true, true, true, true, true, true, false, true, true, true, true, true, true, true, true, true, true, true, true, true, false, false] rfl rfl rfl rfl (two_of HT_.out (by kernel_rfl)) (by decide) (by decide) (fun K hK => ?_) (fun K hK => ?_)
          ·skip
           refine goes_ Try.func20 (by kernel_rfl) rfl #[.slice Ao27 x4_2.length co27, .string ((rd_T93 l0_3 x5_2).f0)] (by rfl) rfl rfl mt ?_
           with_reducible refine (prebendref03_Text.calls _ _ x4_2 ((rd_T93 l0_3 x5_2).f0) t546 _ ?side1 ?side2 A24.out).mono ?_
           (case side1 => exact mC (Kd.R_reads' HO_4.out).2.2)
           (case side2 => exact (Kd.R_reads' HO_4.out).2.1)
           rintro e w29 ⟨v547, rfl, ho0, hb⟩
           refine ⟨_, rfl, ?_⟩
           have n0_ := Aside0.mk (Kd.R_elder' (mR HO_4.out) (Kd.R_base ho0) hb)
           have n1_ := Aside0.mk (Kd.R_lower (Kd.R_new' ho0 (Kd.R_lt (mR HO_4.out))) (below_size (mBs HB.out)))
           have n2_ := Aside0.mk (blk_below (g := gb537) (o := .cells #[.int .i64 a0_0, .int .i64 a0_1, .int .i64 a0_2, .slice (some ad544) l0_3.length c0_3, .slice A0_4 l0_4.length c0_4, .slice A0_5 l0_5.length c0_5, .slice A0_6 l0_6.length c0_6, .slice A0_7 l0_7.length c0_7] 67 (0, 0)) (mBK BK537.out) hb)
           have n3_ := Aside0.mk (below_step (mBs HB.out) hb)
           clear HO_4; clear BK537; clear HB
           have HO_4 := n0_
           have HO548 := n1_
           have BK537 := n2_
           have HB := n3_
           clear n0_; clear n1_; clear n2_; clear n3_
           (try clear hb); (try clear hb2); (try clear hk); (try clear hi); (try clear ho0)
           refine hK.out _ _ ⟨(blk_cell BK537.out 0).trans rfl, (blk_cell BK537.out 1).trans rfl, (blk_cell BK537.out 2).trans rfl, (blk_cell BK537.out 3).trans rfl, (blk_cell BK537.out 4).trans rfl, (blk_cell BK537.out 5).trans rfl, (blk_cell BK537.out 6).trans rfl, (blk_cell BK537.out 7).trans rfl, ((HB.out.cell (World.block_lt_of_cell? w _ hw545_0)).trans hw545_0), ((HB.out.cell (World.block_lt_of_cell? w _ hw545_1)).trans hw545_1), ((HB.out.cell (World.block_lt_of_cell? w _ hw545_2)).trans hw545_2), ((HB.out.cell (World.block_lt_of_cell? w _ hw549_0)).trans hw549_0), ((HB.out.cell (World.block_lt_of_cell? w _ hw549_1)).trans hw549_1), ((HB.out.cell (World.block_lt_of_cell? w _ hw549_2)).trans hw549_2), ((HB.out.cell (World.block_lt_of_cell? w _ hw550_0)).trans hw550_0), ((HB.out.cell (World.block_lt_of_cell? w _ hw550_1)).trans hw550_1), ((HB.out.cell (World.block_lt_of_cell? w _ hw550_2)).trans hw550_2)⟩ (fun hHeld => ?_)
           clear hK; clear K
           refine norm_ (a' := ?_) ?_ ?_
           rotate_left
           ·show Act.put _ (some 74) _ = _
            simp only [Act.put, List.setIfInBounds_toArray, List.set_cons_zero, List.set_cons_succ, i64_w, i32_w]
            rfl
           refine one_ (i := 20) (N := some 87) #[true, true, true, true, true, true, true, true, true, true, true, true, true, true, true, true, true, true, true, true, true, false, false] rfl rfl (one_of HT_.out (by kernel_rfl)) (by decide) (fun K hK => ?_)
           refine Kd.R_lit_step (Kd.int .i64) _ 3 ?hg (N := 87) ?hd (xs := ([(rd_T93 l0_3 x5_2).f1, (rd_T93 l0_3 x5_2).f2] : List Int)) (inner := [.int .i64 ((rd_T93 l0_3 x5_2).f1), .int .i64 ((rd_T93 l0_3 x5_2).f2)]) (ok := fun _ => True) (okp := fun _ => True) ?hr ?hp (fun _ hk => hk) trivial (Below.refl _ _) (Nat.le_refl _) (by simp) ?_; (case hd => rfl); (case hg => rfl); (case hr => first | (go_simp; done) | (go_simp; rfl)); (case hp => exact (Reps.one (show Kd.M (Kd.int .i64) _ _ _ ((rd_T93 l0_3 x5_2).f1) [.int .i64 ((rd_T93 l0_3 x5_2).f1)] from rfl) (Reps.one (show Kd.M (Kd.int .i64) _ _ _ ((rd_T93 l0_3 x5_2).f2) [.int .i64 ((rd_T93 l0_3 x5_2).f2)] from rfl) (Reps.none _ _))))
           intro v552 w30 ho31 hb hg_ hnew_
           clear hg_; clear hnew_
           (first | rw [← Ny551.out] at ho31 | (simp only [Int.reduceToNat] at ho31; rw [← Ny551.out] at ho31))
           have n0_ := Aside0.mk (Kd.R_below (mR HO_4.out) hb)
           have n1_ := Aside0.mk (Kd.R_below (mR HO548.out) hb)
           have n2_ := Aside0.mk (Kd.R_lower ho31 (below_size (mBs HB.out)))
           have n3_ := Aside0.mk (blk_below (g := gb537) (o := .cells #[.int .i64 a0_0, .int .i64 a0_1, .int .i64 a0_2, .slice (some ad544) l0_3.length c0_3, .slice A0_4 l0_4.length c0_4, .slice A0_5 l0_5.length c0_5, .slice A0_6 l0_6.length c0_6, .slice A0_7 l0_7.length c0_7] 67 (0, 0)) (mBK BK537.out) hb)
           have n4_ := Aside0.mk (below_step (mBs HB.out) hb)
           clear HO_4; clear HO548; clear BK537; clear HB
           have HO_4 := n0_
           have HO548 := n1_
           have HO553 := n2_
           have BK537 := n3_
           have HB := n4_
           clear n0_; clear n1_; clear n2_; clear n3_; clear n4_; clear hb; clear ho31
           refine hK.out _ _ ⟨(blk_cell BK537.out 0).trans rfl, (blk_cell BK537.out 1).trans rfl, (blk_cell BK537.out 2).trans rfl, (blk_cell BK537.out 3).trans rfl, (blk_cell BK537.out 4).trans rfl, (blk_cell BK537.out 5).trans rfl, (blk_cell BK537.out 6).trans rfl, (blk_cell BK537.out 7).trans rfl, ((HB.out.cell (World.block_lt_of_cell? w _ hw545_0)).trans hw545_0), ((HB.out.cell (World.block_lt_of_cell? w _ hw545_1)).trans hw545_1), ((HB.out.cell (World.block_lt_of_cell? w _ hw545_2)).trans hw545_2), ((HB.out.cell (World.block_lt_of_cell? w _ hw549_0)).trans hw549_0), ((HB.out.cell (World.block_lt_of_cell? w _ hw549_1)).trans hw549_1), ((HB.out.cell (World.block_lt_of_cell? w _ hw549_2)).trans hw549_2), ((HB.out.cell (World.block_lt_of_cell? w _ hw550_0)).trans hw550_0), ((HB.out.cell (World.block_lt_of_cell? w _ hw550_1)).trans hw550_1), ((HB.out.cell (World.block_lt_of_cell? w _ hw550_2)).trans hw550_2)⟩ (fun hHeld => ?_)
           clear hK; clear K
           refine norm_ (a' := ?_) ?_ ?_
           rotate_left
           ·show Act.put _ (some 87) _ = _
            simp only [Act.put, List.setIfInBounds_toArray, List.set_cons_zero, List.set_cons_succ, i64_w, i32_w]
            rfl
           exact norm_ (by simp only [putAll, Act.put, List.setIfInBounds_toArray, List.set_cons_zero, List.set_cons_succ]) (hCont (v547, v552) _ ⟨hHeld, (by (with_reducible repeat (first | apply Kd.R_alloc | apply Kd.R_drewN | apply Kd.R_drew)); exact Kd.R_mono HO548.out (fun _ hk => hk.2)), (mR HO553.out), (by (with_reducible repeat (first | apply Kd.R_alloc | apply Kd.R_drewN | apply Kd.R_drew)); exact Kd.R_mono HO_4.out (fun _ hk => hk.2)), (mBK BK537.out), (mBs HB.out)⟩)
          ·skip
           refine Kd.R_lit_step (Kd.int .i64) _ 3 ?hg (N := 87) ?hd (xs := ([(rd_T93 l0_3 x5_2).f1, (rd_T93 l0_3 x5_2).f2] : List Int)) (inner := [.int .i64 ((rd_T93 l0_3 x5_2).f1), .int .i64 ((rd_T93 l0_3 x5_2).f2)]) (ok := fun _ => True) (okp := fun _ => True) ?hr ?hp (fun _ hk => hk) trivial (Below.refl _ _) (Nat.le_refl _) (by simp) ?_; (case hd => rfl); (case hg => rfl); (case hr => first | (go_simp; done) | (go_simp; rfl)); (case hp => exact (Reps.one (show Kd.M (Kd.int .i64) _ _ _ ((rd_T93 l0_3 x5_2).f1) [.int .i64 ((rd_T93 l0_3 x5_2).f1)] from rfl) (Reps.one (show Kd.M (Kd.int .i64) _ _ _ ((rd_T93 l0_3 x5_2).f2) [.int .i64 ((rd_T93 l0_3 x5_2).f2)] from rfl) (Reps.none _ _))))
           intro v552 w29 ho30 hb hg_ hnew_
           clear hg_; clear hnew_
           (first | rw [← Ny551.out] at ho30 | (simp only [Int.reduceToNat] at ho30; rw [← Ny551.out] at ho30))
           have n0_ := Aside0.mk (Kd.R_below (mR HO_4.out) hb)
           have n1_ := Aside0.mk (Kd.R_lower ho30 (below_size (mBs HB.out)))
           have n2_ := Aside0.mk (blk_below (g := gb537) (o := .cells #[.int .i64 a0_0, .int .i64 a0_1, .int .i64 a0_2, .slice (some ad544) l0_3.length c0_3, .slice A0_4 l0_4.length c0_4, .slice A0_5 l0_5.length c0_5, .slice A0_6 l0_6.length c0_6, .slice A0_7 l0_7.length c0_7] 67 (0, 0)) (mBK BK537.out) hb)
           have n3_ := Aside0.mk (below_step (mBs HB.out) hb)
           clear HO_4; clear BK537; clear HB
           have HO_4 := n0_
           have HO553 := n1_
           have BK537 := n2_
           have HB := n3_
           clear n0_; clear n1_; clear n2_; clear n3_; clear hb; clear ho30
           refine hK.out _ _ ⟨(blk_cell BK537.out 0).trans rfl, (blk_cell BK537.out 1).trans rfl, (blk_cell BK537.out 2).trans rfl, (blk_cell BK537.out 3).trans rfl, (blk_cell BK537.out 4).trans rfl, (blk_cell BK537.out 5).trans rfl, (blk_cell BK537.out 6).trans rfl, (blk_cell BK537.out 7).trans rfl, ((HB.out.cell (World.block_lt_of_cell? w _ hw545_0)).trans hw545_0), ((HB.out.cell (World.block_lt_of_cell? w _ hw545_1)).trans hw545_1), ((HB.out.cell (World.block_lt_of_cell? w _ hw545_2)).trans hw545_2), ((HB.out.cell (World.block_lt_of_cell? w _ hw549_0)).trans hw549_0), ((HB.out.cell (World.block_lt_of_cell? w _ hw549_1)).trans hw549_1), ((HB.out.cell (World.block_lt_of_cell? w _ hw549_2)).trans hw549_2), ((HB.out.cell (World.block_lt_of_cell? w _ hw550_0)).trans hw550_0), ((HB.out.cell (World.block_lt_of_cell? w _ hw550_1)).trans hw550_1), ((HB.out.cell (World.block_lt_of_cell? w _ hw550_2)).trans hw550_2)⟩ (fun hHeld => ?_)
           clear hK; clear K
           refine norm_ (a' := ?_) ?_ ?_
           rotate_left
           ·show Act.put _ (some 87) _ = _
            simp only [Act.put, List.setIfInBounds_toArray, List.set_cons_zero, List.set_cons_succ, i64_w, i32_w]
            rfl
           refine one_ (i := 7) (N := some 74) #[true, true, true, true, true, true, true, true, true, true, true, true, true, true, true, true, true, true, true, true, true, false, false] rfl rfl (one_of HT_.out (by kernel_rfl)) (by decide) (fun K hK => ?_)
           refine goes_ Try.func20 (by kernel_rfl) rfl #[.slice Ao27 x4_2.length co27, .string ((rd_T93 l0_3 x5_2).f0)] (by rfl) rfl rfl mt ?_
           with_reducible refine (prebendref03_Text.calls _ _ x4_2 ((rd_T93 l0_3 x5_2).f0) t546 _ ?side1 ?side2 A24.out).mono ?_
           (case side1 => exact mC (Kd.R_reads' HO_4.out).2.2)
           (case side2 => exact (Kd.R_reads' HO_4.out).2.1)
           rintro e w31 ⟨v547, rfl, ho0, hb⟩
           refine ⟨_, rfl, ?_⟩
           have n0_ := Aside0.mk (Kd.R_elder' (mR HO_4.out) (Kd.R_base ho0) hb)
           have n1_ := Aside0.mk (Kd.R_below (mR HO553.out) hb)
           have n2_ := Aside0.mk (Kd.R_lower (Kd.R_new' ho0 (Kd.R_lt (mR HO_4.out))) (below_size (mBs HB.out)))
           have n3_ := Aside0.mk (blk_below (g := gb537) (o := .cells #[.int .i64 a0_0, .int .i64 a0_1, .int .i64 a0_2, .slice (some ad544) l0_3.length c0_3, .slice A0_4 l0_4.length c0_4, .slice A0_5 l0_5.length c0_5, .slice A0_6 l0_6.length c0_6, .slice A0_7 l0_7.length c0_7] 67 (0, 0)) (mBK BK537.out) hb)
           have n4_ := Aside0.mk (below_step (mBs HB.out) hb)
           clear HO_4; clear HO553; clear BK537; clear HB
           have HO_4 := n0_
           have HO553 := n1_
           have HO548 := n2_
           have BK537 := n3_
           have HB := n4_
           clear n0_; clear n1_; clear n2_; clear n3_; clear n4_
           (try clear hb); (try clear hb2); (try clear hk); (try clear hi); (try clear ho0)
           refine hK.out _ _ ⟨(blk_cell BK537.out 0).trans rfl, (blk_cell BK537.out 1).trans rfl, (blk_cell BK537.out 2).trans rfl, (blk_cell BK537.out 3).trans rfl, (blk_cell BK537.out 4).trans rfl, (blk_cell BK537.out 5).trans rfl, (blk_cell BK537.out 6).trans rfl, (blk_cell BK537.out 7).trans rfl, ((HB.out.cell (World.block_lt_of_cell? w _ hw545_0)).trans hw545_0), ((HB.out.cell (World.block_lt_of_cell? w _ hw545_1)).trans hw545_1), ((HB.out.cell (World.block_lt_of_cell? w _ hw545_2)).trans hw545_2), ((HB.out.cell (World.block_lt_of_cell? w _ hw549_0)).trans hw549_0), ((HB.out.cell (World.block_lt_of_cell? w _ hw549_1)).trans hw549_1), ((HB.out.cell (World.block_lt_of_cell? w _ hw549_2)).trans hw549_2), ((HB.out.cell (World.block_lt_of_cell? w _ hw550_0)).trans hw550_0), ((HB.out.cell (World.block_lt_of_cell? w _ hw550_1)).trans hw550_1), ((HB.out.cell (World.block_lt_of_cell? w _ hw550_2)).trans hw550_2)⟩ (fun hHeld => ?_)
           clear hK; clear K
           refine norm_ (a' := ?_) ?_ ?_
           rotate_left
           ·show Act.put _ (some 74) _ = _
            simp only [Act.put, List.setIfInBounds_toArray, List.set_cons_zero, List.set_cons_succ, i64_w, i32_w]
            rfl
           exact norm_ (by simp only [putAll, Act.put, List.setIfInBounds_toArray, List.set_cons_zero, List.set_cons_succ]) (hCont (v547, v552) _ ⟨hHeld, (by (with_reducible repeat (first | apply Kd.R_alloc | apply Kd.R_drewN | apply Kd.R_drew)); exact Kd.R_mono HO548.out (fun _ hk => hk.2)), (mR HO553.out), (by (with_reducible repeat (first | apply Kd.R_alloc | apply Kd.R_drewN | apply Kd.R_drew)); exact Kd.R_mono HO_4.out (fun _ hk => hk.2)), (mBK BK537.out), (mBs HB.out)⟩)
         rintro ⟨v547, v552⟩ w32 ⟨hS_, h0_, h1_, h2_, h3_, h4_⟩
         have n0_ : Aside0 (Kd.R (Kd.int .u8) 5 w32 w.heap.size (fun k_ => some k_ ≠ (.slice Ao27 x4_2.length co27 : Value).ownBlock) v547 t546) := ⟨h0_⟩
         have n1_ : Aside0 (Kd.R (Kd.int .i64) 3 w32 w.heap.size (fun _ => True) v552 y551) := ⟨h1_⟩
         have n2_ : Aside0 (Kd.R (Kd.int .u8) 5 w32 w.heap.size (fun k_ => some k_ ≠ (v547 : Value).ownBlock) (.slice Ao27 x4_2.length co27) x4_2) := ⟨h2_⟩
         have n3_ : Aside0 (w32.heap[gb537]? = some (.cells #[.int .i64 a0_0, .int .i64 a0_1, .int .i64 a0_2, .slice (some ad544) l0_3.length c0_3, .slice A0_4 l0_4.length c0_4, .slice A0_5 l0_5.length c0_5, .slice A0_6 l0_6.length c0_6, .slice A0_7 l0_7.length c0_7] 67 (0, 0))) := ⟨h3_⟩
         have n4_ : Aside0 (Below w.heap.size w w32) := ⟨h4_⟩
         clear HO_4; clear BK537; clear HB; clear h0_; clear h1_; clear h2_; clear h3_; clear h4_
         have HO548 := n0_
         have HO553 := n1_
         have HO_4 := n2_
         have BK537 := n3_
         have HB := n4_
         clear n0_; clear n1_; clear n2_; clear n3_; clear n4_
         have hHeld : w32.cell? ⟨gb537, 0, none⟩ = some (.int .i64 a0_0) ∧ w32.cell? ⟨gb537, 1, none⟩ = some (.int .i64 a0_1) ∧ w32.cell? ⟨gb537, 2, none⟩ = some (.int .i64 a0_2) ∧ w32.cell? ⟨gb537, 3, none⟩ = some (.slice (some ad544) l0_3.length c0_3) ∧ w32.cell? ⟨gb537, 4, none⟩ = some (.slice A0_4 l0_4.length c0_4) ∧ w32.cell? ⟨gb537, 5, none⟩ = some (.slice A0_5 l0_5.length c0_5) ∧ w32.cell? ⟨gb537, 6, none⟩ = some (.slice A0_6 l0_6.length c0_6) ∧ w32.cell? ⟨gb537, 7, none⟩ = some (.slice A0_7 l0_7.length c0_7) ∧ w32.cell? (ad544.add ((x5_2).toNat * 3)) = some (.string ((rd_T93 l0_3 x5_2).f0)) ∧ w32.cell? ⟨(ad544.add ((x5_2).toNat * 3)).block, (ad544.add ((x5_2).toNat * 3)).off + 1, none⟩ = some (.int .i64 ((rd_T93 l0_3 x5_2).f1)) ∧ w32.cell? ⟨(ad544.add ((x5_2).toNat * 3)).block, (ad544.add ((x5_2).toNat * 3)).off + 2, none⟩ = some (.int .i64 ((rd_T93 l0_3 x5_2).f2)) ∧ w32.cell? (ad544.add ((x5_2).toNat * 3)) = some (.string ((rd_T93 l0_3 x5_2).f0)) ∧ w32.cell? ⟨(ad544.add ((x5_2).toNat * 3)).block, (ad544.add ((x5_2).toNat * 3)).off + 1, none⟩ = some (.int .i64 ((rd_T93 l0_3 x5_2).f1)) ∧ w32.cell? ⟨(ad544.add ((x5_2).toNat * 3)).block, (ad544.add ((x5_2).toNat * 3)).off + 2, none⟩ = some (.int .i64 ((rd_T93 l0_3 x5_2).f2)) ∧ w32.cell? (ad544.add ((x5_2).toNat * 3)) = some (.string ((rd_T93 l0_3 x5_2).f0)) ∧ w32.cell? ⟨(ad544.add ((x5_2).toNat * 3)).block, (ad544.add ((x5_2).toNat * 3)).off + 1, none⟩ = some (.int .i64 ((rd_T93 l0_3 x5_2).f1)) ∧ w32.cell? ⟨(ad544.add ((x5_2).toNat * 3)).block, (ad544.add ((x5_2).toNat * 3)).off + 2, none⟩ = some (.int .i64 ((rd_T93 l0_3 x5_2).f2)) := hS_
         obtain ⟨Ao33, co33, eo33⟩ := Kd.R_slice HO548.out
         (first | subst eo33 | (injection eo33 with f1_ f2_ f3_; have f4_ := f1_.symm; have f5_ := f3_.symm; clear f1_ f2_ f3_; subst f4_; subst f5_))
         obtain ⟨Ao34, co34, eo34⟩ := Kd.R_slice HO553.out
         (first | subst eo34 | (injection eo34 with f1_ f2_ f3_; have f4_ := f1_.symm; have f5_ := f3_.symm; clear f1_ f2_ f3_; subst f4_; subst f5_))
         refine norm_ (a' := ?_) ?_ ?_
         rotate_left
         ·simp only [putAll, Act.put, List.setIfInBounds_toArray, List.set_cons_zero, List.set_cons_succ]
          rfl
         refine one_ (i := 21) (N := some 88) #[true, true, true, true, true, true, true, true, true, true, true, true, true, true, true, true, true, true, true, true, true, true, false] rfl rfl (one_of HT_.out (by kernel_rfl)) (by decide) (fun K hK => ?_)
         refine goes_ Try.func51 (by kernel_rfl) rfl #[.slice Ao33 t546.length co33, .slice Ao34 y551.length co34] (by rfl) rfl rfl mt ?_
         with_reducible refine (prebendref13_nums.calls k2 (fun k_ => some k_ = (.slice Ao33 t546.length co33 : Value).ownBlock) (.slice Ao33 t546.length co33) t546 _ _ y551 t554 w _ ?side1 ?side2 ?side3 ?side4 A25.out).mono ?_
         (case side1 => repeat (first | (with_reducible first | exact HB.out | apply below_alloc | apply pw_below_drewN | apply below_drew1 | refine below_set ?_ GE537.out) | exact HB.out))
         (case side2 => exact Kd.R_tight rfl HO548.out)
         (case side3 => exact Kd.C_kept_own ((Kd.R_apart' HO553.out (Kd.R_typed HO548.out) (by decide))) (fun k_ hk_ hs_ => (hk_.2) hs_))
         (case side4 => exact (Kd.R_reads' HO553.out).2.1)
         rintro e w35 ⟨v555, rfl, ho0, hb, hkp⟩
         refine ⟨_, rfl, ?_⟩
         have n0_ := Aside0.mk (Kd.R_mono (ok' := fun k_ => some k_ ≠ (v555 : Value).ownBlock) (Kd.R_keptB (HO_4.out) hkp (fun k_ hk_ hs_ => (hk_) hs_)) (fun k_ hk_ => fun e_ => Or.elim (ho0.1 k_ e_.symm) (fun hs_ => hk_.2.1 hs_) (fun hn_ => Nat.not_le.2 hk_.2.2 hn_)))
         have n1_ := Aside0.mk (blk_kept (mBK BK537.out) hkp (fun hs_ => (fun e_ => (Kd.R_ne HO548.out BK537.out (by decide)) e_) hs_))
         have n2_ := Aside0.mk (Kd.R_mono (ok' := fun k_ => True) (Kd.R_keptB ((Kd.R_apart' HO553.out (Kd.R_typed HO548.out) (by decide))) hkp (fun k_ hk_ hs_ => (hk_.2) hs_)) (fun k_ hk_ => trivial))
         have n3_ := Aside0.mk (Kd.R_mono (ok' := fun k_ => some k_ ≠ (.slice Ao27 x4_2.length co27 : Value).ownBlock) ho0 (fun k_ hk_ => Or.elim hk_ (fun hs_ => fun e_ => (((HO_4.out).1 k_ e_.symm)) hs_) (fun hn_ => (Kd.fresh' (Kd.R_lt (mR HO_4.out)) k_ hn_))))
         have n4_ := Aside0.mk (hb)
         clear HO_4; clear BK537; clear HO553; clear HB; clear HO548
         have HO_4 := n0_
         have BK537 := n1_
         have HO553 := n2_
         have HO556 := n3_
         have HB := n4_
         clear n0_; clear n1_; clear n2_; clear n3_; clear n4_
         (try clear hb); (try clear hkp); (try clear ho0)
         refine hK.out _ _ ⟨(blk_cell BK537.out 0).trans rfl, (blk_cell BK537.out 1).trans rfl, (blk_cell BK537.out 2).trans rfl, (blk_cell BK537.out 3).trans rfl, (blk_cell BK537.out 4).trans rfl, (blk_cell BK537.out 5).trans rfl, (blk_cell BK537.out 6).trans rfl, (blk_cell BK537.out 7).trans rfl, ((HB.out.cell (World.block_lt_of_cell? w _ hw545_0)).trans hw545_0), ((HB.out.cell (World.block_lt_of_cell? w _ hw545_1)).trans hw545_1), ((HB.out.cell (World.block_lt_of_cell? w _ hw545_2)).trans hw545_2), ((HB.out.cell (World.block_lt_of_cell? w _ hw549_0)).trans hw549_0), ((HB.out.cell (World.block_lt_of_cell? w _ hw549_1)).trans hw549_1), ((HB.out.cell (World.block_lt_of_cell? w _ hw549_2)).trans hw549_2), ((HB.out.cell (World.block_lt_of_cell? w _ hw550_0)).trans hw550_0), ((HB.out.cell (World.block_lt_of_cell? w _ hw550_1)).trans hw550_1), ((HB.out.cell (World.block_lt_of_cell? w _ hw550_2)).trans hw550_2)⟩ (fun hHeld => ?_)
         clear hK; clear K
         refine norm_ (a' := ?_) ?_ ?_
         rotate_left
         ·show Act.put _ (some 88) _ = _
          simp only [Act.put, List.setIfInBounds_toArray, List.set_cons_zero, List.set_cons_succ, i64_w, i32_w]
          rfl
         refine plan_ [(22, 4)] ?_
         refine planP_ (v := ?_) (a' := ?_) rfl rfl (any_of HT_.out (by kernel_rfl)) (fun _ _ _ h => h) (Or.inl ⟨by rfl, ?_⟩) ?_ ?_; rotate_left; (intro w'; go_simp; with_reducible rfl); rotate_left; (simp only [Act.put, List.setIfInBounds_toArray, List.set_cons_zero, List.set_cons_succ, i64_w, i32_w]; rfl)
         refine planEnd_ ?_
         refine done_ (done_of HT_.out (by kernel_rfl)) ?_
         try go_wp2
         go_roundg k2
         case measure => have := HJ1.out; have := HK2.out; omega
         case rel => exact ⟨(t554), (wrap64 (x5_2 + 1)), ez, H', ⟨by have := HJ1.out; have := HK2.out; omega⟩, ⟨by (with_reducible repeat (first | apply Kd.R_alloc | apply Kd.R_drewN | apply Kd.R_drew)); exact Kd.R_mono HO556.out (fun _ hk => trivial)⟩, ⟨mBK BK537.out⟩, ⟨mBs HB.out⟩⟩
       ·rw [if_neg c21] at H
        exact absurd H (by simp)
      ·rw [if_neg c20] at H
       have c20b0 : decide (x5_2 < (l0_3.length : Int)) = false := decide_eq_false c20
       clear c20
       obtain ⟨y557, hy557⟩ : ∃ y_ : List Int, y_ = (([(l0_4.length : Int)] : List Int)) := ⟨_, rfl⟩
       replace H : ((prebendref13_nums.f k2 x4_2 y557).bind fun t560 => (prebendref13_Encode.l1 k2 t560 0 a0_0 a0_1 a0_2 l0_3 l0_4 l0_5 l0_6 l0_7)) = some (r1, r2) := mH hy557 H
       have Ny557 := Aside0.mk hy557
       clear hy557
       replace H := Option.bind_eq_some_iff.mp H
       obtain ⟨t560, A360, H⟩ := H
       replace H : (prebendref13_Encode.l1 k2 t560 0 a0_0 a0_1 a0_2 l0_3 l0_4 l0_5 l0_6 l0_7) = some (r1, r2) := H
       have A36 := Aside0.mk A360
       clear A360
       have H' := Aside0.mk H
       clear H
       have hcz37_0 : wr.cell? ⟨gb537, 0, none⟩ = some (.int .i64 a0_0) := (blk_cell BK537.out 0).trans rfl
       have hcz37_1 : wr.cell? ⟨gb537, 1, none⟩ = some (.int .i64 a0_1) := (blk_cell BK537.out 1).trans rfl
       have hcz37_2 : wr.cell? ⟨gb537, 2, none⟩ = some (.int .i64 a0_2) := (blk_cell BK537.out 2).trans rfl
       have hcz37_3 : wr.cell? ⟨gb537, 3, none⟩ = some (.slice A0_3 l0_3.length c0_3) := (blk_cell BK537.out 3).trans rfl
       have hcz37_4 : wr.cell? ⟨gb537, 4, none⟩ = some (.slice A0_4 l0_4.length c0_4) := (blk_cell BK537.out 4).trans rfl
       have hcz37_5 : wr.cell? ⟨gb537, 5, none⟩ = some (.slice A0_5 l0_5.length c0_5) := (blk_cell BK537.out 5).trans rfl
       have hcz37_6 : wr.cell? ⟨gb537, 6, none⟩ = some (.slice A0_6 l0_6.length c0_6) := (blk_cell BK537.out 6).trans rfl
       have hcz37_7 : wr.cell? ⟨gb537, 7, none⟩ = some (.slice A0_7 l0_7.length c0_7) := (blk_cell BK537.out 7).trans rfl
       have hfz37_0 := blk_frozen BK537.out 0
       have hfz37_1 := blk_frozen BK537.out 1
       have hfz37_2 := blk_frozen BK537.out 2
       have hfz37_3 := blk_frozen BK537.out 3
       have hfz37_4 := blk_frozen BK537.out 4
       have hfz37_5 := blk_frozen BK537.out 5
       have hfz37_6 := blk_frozen BK537.out 6
       have hfz37_7 := blk_frozen BK537.out 7
       go_wp2_with (first | ((with_reducible refine gate_dst (N := 93) rfl ?_); (try (refine gate_guard (by rfl) ?_; dsimp only)); refine Kd.R_lit (Kd.int .i64) _ 3 ?hg (N := 93) ?hd (xs := ([(l0_4.length : Int)] : List Int)) (inner := [.int .i64 (l0_4.length : Int)]) (ok := fun _ => True) (okp := fun _ => True) ?hr ?hp (fun _ hk => hk) trivial (Below.refl _ _) (Nat.le_refl _) (by simp) ?_; (case hd => rfl); (case hg => rfl); (case hr => first | (go_simp; done) | (go_simp; rfl)); (case hp => exact (Reps.one (show Kd.M (Kd.int .i64) _ _ _ (l0_4.length : Int) [.int .i64 (l0_4.length : Int)] from rfl) (Reps.none _ _))); intro v558 w38 ho39 hb hg_ hnew_; clear hg_ hnew_; (first | rw [← Ny557.out] at ho39 | (simp only [Int.reduceToNat] at ho39; rw [← Ny557.out] at ho39)); have n0_ := Aside0.mk (Kd.R_below (mR HO_4.out) hb); have n1_ := Aside0.mk (Kd.R_lower ho39 (below_size (mBs HB.out))); have n2_ := Aside0.mk (blk_below (g := gb537) (o := .cells #[.int .i64 a0_0, .int .i64 a0_1, .int .i64 a0_2, .slice A0_3 l0_3.length c0_3, .slice A0_4 l0_4.length c0_4, .slice A0_5 l0_5.length c0_5, .slice A0_6 l0_6.length c0_6, .slice A0_7 l0_7.length c0_7] 67 (0, 0)) (mBK BK537.out) hb); have n3_ := Aside0.mk (below_step (mBs HB.out) hb); clear HO_4; clear BK537; clear HB; have HO_4 := n0_; have HO559 := n1_; have BK537 := n2_; have HB := n3_; clear n0_ n1_ n2_ n3_; clear hb ho39; obtain ⟨Ao40, co40, eo40⟩ := Kd.R_slice HO_4.out; subst eo40; obtain ⟨Ao41, co41, eo41⟩ := Kd.R_slice HO559.out; subst eo41) | ((with_reducible refine gate_callee (f := 51) rfl ?_); refine goesL_ (some 94) rfl rfl Try.func51 (by kernel_rfl) rfl #[.slice Ao40 x4_2.length co40, .slice Ao41 y557.length co41] rfl mt ?_; (with_reducible refine (prebendref13_nums.calls k2 (fun k_ => some k_ = (.slice Ao40 x4_2.length co40 : Value).ownBlock) (.slice Ao40 x4_2.length co40) x4_2 _ _ y557 t560 w _ ?side1 ?side2 ?side3 ?side4 A36.out).mono ?_); (case side1 => repeat (first | (with_reducible first | exact HB.out | apply below_alloc | apply pw_below_drewN | apply below_drew1 | refine below_set ?_ GE537.out) | exact HB.out)); (case side2 => exact Kd.R_tight rfl HO_4.out); (case side3 => exact Kd.C_kept_own ((Kd.R_apart' HO559.out (Kd.R_typed HO_4.out) (by decide))) (fun k_ hk_ hs_ => (hk_.2) hs_)); (case side4 => exact (Kd.R_reads' HO559.out).2.1); rintro e w42 ⟨v561, rfl, ho0, hb, hkp⟩; refine ⟨_, rfl, ?_⟩; have n0_ := Aside0.mk (blk_kept (mBK BK537.out) hkp (fun hs_ => (fun e_ => (Kd.R_ne HO_4.out BK537.out (by decide)) e_) hs_)); have n1_ := Aside0.mk (Kd.R_mono (ok' := fun k_ => True) (Kd.R_keptB ((Kd.R_apart' HO559.out (Kd.R_typed HO_4.out) (by decide))) hkp (fun k_ hk_ hs_ => (hk_.2) hs_)) (fun k_ hk_ => trivial)); have n2_ := Aside0.mk (Kd.R_mono (ok' := fun k_ => True) ho0 (fun k_ hk_ => trivial)); have n3_ := Aside0.mk (hb); clear BK537; clear HO559; clear HB; clear HO_4; have BK537 := n0_; have HO559 := n1_; have HO562 := n2_; have HB := n3_; clear n0_ n1_ n2_ n3_; (try clear hb); (try clear hkp); (try clear ho0)))
       go_loopg [4, 6] k2 (fun kq v4 v6 w' => ∃ (x4_3 : List Int) (x6_3 : Int), v6 = .int .i64 x6_3 ∧ Aside0 (prebendref13_Encode.l1 kq x4_3 x6_3 a0_0 a0_1 a0_2 l0_3 l0_4 l0_5 l0_6 l0_7 = some (r1, r2)) ∧ Aside0 (kq ≤ k2) ∧ Aside0 (Kd.R (Kd.int .u8) 5 w' w.heap.size (fun _ => True) v4 x4_3) ∧ Aside0 (w'.heap[gb537]? = some (.cells #[.int .i64 a0_0, .int .i64 a0_1, .int .i64 a0_2, (.slice A0_3 l0_3.length c0_3), (.slice A0_4 l0_4.length c0_4), (.slice A0_5 l0_5.length c0_5), (.slice A0_6 l0_6.length c0_6), (.slice A0_7 l0_7.length c0_7)] 67 (0, 0))) ∧ Aside0 (Below w.heap.size w w'))
       case atStart => exact ⟨(t560), (0), ez, H', ⟨Nat.le_refl _⟩, ⟨mR HO562.out⟩, ⟨mBK BK537.out⟩, ⟨mBs HB.out⟩⟩
       case round =>
        clear H'
        (try clear c2); (try clear p2); (try clear c5); (try clear p5); (try clear q5); (try clear hx5); (try clear p6); (try clear c20); (try clear c20b0); (try clear c21); (try clear c21b0); (try clear c22); (try clear c22b0); (try clear c22b1); (try clear hcz23_0); (try clear hcz23_1); (try clear hcz23_2); (try clear hcz23_3); (try clear hcz23_4); (try clear hcz23_5); (try clear hcz23_6); (try clear hcz23_7); (try clear hcz26_0); (try clear hcz26_1); (try clear hcz26_2); (try clear hcz26_3); (try clear hcz26_4); (try clear hcz26_5); (try clear hcz26_6); (try clear hcz26_7); (try clear hcz37_0); (try clear hcz37_1); (try clear hcz37_2); (try clear hcz37_3); (try clear hcz37_4); (try clear hcz37_5); (try clear hcz37_6); (try clear hcz37_7); (try clear hcz5_5); (try clear hcz5_6); (try clear hcz5_7); (try clear hcz7_0); (try clear hcz7_1); (try clear hcz7_2); (try clear hcz7_3); (try clear hcz7_4); (try clear hcz7_5); (try clear hcz7_6); (try clear hcz7_7); (try clear hcz9_0); (try clear hcz9_1); (try clear hcz9_2); (try clear hcz9_3); (try clear hcz9_4); (try clear hcz9_5); (try clear hcz9_6); (try clear hcz9_7); (try clear hfz11_0); (try clear hfz11_1); (try clear hfz11_2); (try clear hfz11_3); (try clear hfz11_4); (try clear hfz11_5); (try clear hfz11_6); (try clear hfz11_7); (try clear hfz12_0); (try clear hfz12_1); (try clear hfz12_2); (try clear hfz12_3); (try clear hfz12_4); (try clear hfz12_5); (try clear hfz12_6); (try clear hfz12_7); (try clear hfz15_0); (try clear hfz15_1); (try clear hfz15_2); (try clear hfz15_3); (try clear hfz15_4); (try clear hfz15_5); (try clear hfz15_6); (try clear hfz15_7); (try clear hfz23_0); (try clear hfz23_1); (try clear hfz23_2); (try clear hfz23_3); (try clear hfz23_4); (try clear hfz23_5); (try clear hfz23_6); (try clear hfz23_7); (try clear hfz26_0); (try clear hfz26_1); (try clear hfz26_2); (try clear hfz26_3); (try clear hfz26_4); (try clear hfz26_5); (try clear hfz26_6); (try clear hfz26_7); (try clear hfz37_0); (try clear hfz37_1); (try clear hfz37_2); (try clear hfz37_3); (try clear hfz37_4); (try clear hfz37_5); (try clear hfz37_6); (try clear hfz37_7); (try clear hfz5_0); (try clear hfz5_1); (try clear hfz5_2); (try clear hfz5_3); (try clear hfz5_4); (try clear hfz5_5); (try clear hfz5_6); (try clear hfz5_7); (try clear hfz7_0); (try clear hfz7_1); (try clear hfz7_2); (try clear hfz7_3); (try clear hfz7_4); (try clear hfz7_5); (try clear hfz7_6); (try clear hfz7_7); (try clear hfz9_0); (try clear hfz9_1); (try clear hfz9_2); (try clear hfz9_3); (try clear hfz9_4); (try clear hfz9_5); (try clear hfz9_6); (try clear hfz9_7); (try clear hx544_0); (try clear hx544_1); (try clear hx544_2); (try clear hx545_0); (try clear hx545_1); (try clear hx545_2); (try clear hx549_0); (try clear hx549_1); (try clear hx549_2); (try clear hx550_0); (try clear hx550_1); (try clear hx550_2); (try clear p2); (try clear p544); (try clear p545); (try clear p549); (try clear p550); (try clear q544); (try clear q545); (try clear q549); (try clear q550)
        obtain ⟨x4_3, x6_3, rfl, HA, HK3, HO_4, BK537, HB⟩ := hrel
        cases gk with
        | zero => exact absurd HA.out (by simp [prebendref13_Encode.l1])
        | succ k3 =>
         have H := HA.out
         clear HA
         simp only [prebendref13_Encode.l1] at H
         by_cases c43 : x6_3 < (l0_4.length : Int)
         ·rw [if_pos c43] at H
          have c43b0 : decide (x6_3 < (l0_4.length : Int)) = true := decide_eq_true c43
          clear c43
          by_cases c44 : 0 ≤ x6_3
          ·rw [if_pos c44] at H
           have c44b0 : decide (0 ≤ x6_3) = true := decide_eq_true c44
           clear c44
           obtain ⟨y565, hy565⟩ : ∃ y_ : List Int, y_ = (([(rd_T95 l0_4 x6_3).f0, (rd_T95 l0_4 x6_3).f1, (rd_T95 l0_4 x6_3).f2, (rd_T95 l0_4 x6_3).f3, (rd_T95 l0_4 x6_3).f4, (rd_T95 l0_4 x6_3).f5] : List Int)) := ⟨_, rfl⟩
           replace H : ((prebendref13_nums.f k3 x4_3 y565).bind fun t568 => (prebendref13_Encode.l1 k3 t568 (wrap64 (x6_3 + 1)) a0_0 a0_1 a0_2 l0_3 l0_4 l0_5 l0_6 l0_7)) = some (r1, r2) := mH hy565 H
           have Ny565 := Aside0.mk hy565
           clear hy565
           replace H := Option.bind_eq_some_iff.mp H
           obtain ⟨t568, A450, H⟩ := H
           replace H : (prebendref13_Encode.l1 k3 t568 (wrap64 (x6_3 + 1)) a0_0 a0_1 a0_2 l0_3 l0_4 l0_5 l0_6 l0_7) = some (r1, r2) := H
           have A45 := Aside0.mk A450
           clear A450
           have H' := Aside0.mk H
           clear H
           have hcz46_0 : wr.cell? ⟨gb537, 0, none⟩ = some (.int .i64 a0_0) := (blk_cell BK537.out 0).trans rfl
           have hcz46_1 : wr.cell? ⟨gb537, 1, none⟩ = some (.int .i64 a0_1) := (blk_cell BK537.out 1).trans rfl
           have hcz46_2 : wr.cell? ⟨gb537, 2, none⟩ = some (.int .i64 a0_2) := (blk_cell BK537.out 2).trans rfl
           have hcz46_3 : wr.cell? ⟨gb537, 3, none⟩ = some (.slice A0_3 l0_3.length c0_3) := (blk_cell BK537.out 3).trans rfl
           have hcz46_4 : wr.cell? ⟨gb537, 4, none⟩ = some (.slice A0_4 l0_4.length c0_4) := (blk_cell BK537.out 4).trans rfl
           have hcz46_5 : wr.cell? ⟨gb537, 5, none⟩ = some (.slice A0_5 l0_5.length c0_5) := (blk_cell BK537.out 5).trans rfl
           have hcz46_6 : wr.cell? ⟨gb537, 6, none⟩ = some (.slice A0_6 l0_6.length c0_6) := (blk_cell BK537.out 6).trans rfl
           have hcz46_7 : wr.cell? ⟨gb537, 7, none⟩ = some (.slice A0_7 l0_7.length c0_7) := (blk_cell BK537.out 7).trans rfl
           have hfz46_0 := blk_frozen BK537.out 0
           have hfz46_1 := blk_frozen BK537.out 1
           have hfz46_2 := blk_frozen BK537.out 2
           have hfz46_3 := blk_frozen BK537.out 3
           have hfz46_4 := blk_frozen BK537.out 4
           have hfz46_5 := blk_frozen BK537.out 5
           have hfz46_6 := blk_frozen BK537.out 6
           have hfz46_7 := blk_frozen BK537.out 7
           have p563 : 0 ≤ (x6_3 : Int) := oda
           have q563 : x6_3 < (l0_4.length : Int) := oda
           obtain ⟨ad563, e563, hx563_0, hx563_1, hx563_2, hx563_3, hx563_4, hx563_5⟩ := at_T95 HR0_4.out x6_3 p563 q563
           cases e563
           replace hx563_0 := (HB.out.cell (World.block_lt_of_cell? w _ hx563_0)).trans hx563_0
           replace hx563_1 := (HB.out.cell (World.block_lt_of_cell? w _ hx563_1)).trans hx563_1
           replace hx563_2 := (HB.out.cell (World.block_lt_of_cell? w _ hx563_2)).trans hx563_2
           replace hx563_3 := (HB.out.cell (World.block_lt_of_cell? w _ hx563_3)).trans hx563_3
           replace hx563_4 := (HB.out.cell (World.block_lt_of_cell? w _ hx563_4)).trans hx563_4
           replace hx563_5 := (HB.out.cell (World.block_lt_of_cell? w _ hx563_5)).trans hx563_5
           replace p563 := eq_true p563
           replace q563 := eq_true q563
           go_wp2_with (first | ((with_reducible refine gate_dst (N := 7) rfl ?_); (try (refine gate_guard (by rfl) ?_; dsimp only)); refine box_event ?hg (N := 7) ?hd (cs := #[.int .i64 0, .int .i64 0, .int .i64 0, .int .i64 0, .int .i64 0, .int .i64 0]) (t := 95) ?hr ?_; (case hd => rfl); (case hg => rfl); (case hr => first | (go_simp; done) | (go_simp; rfl)); intro gb564 hg w47 hbox hb; have n0_ := Aside0.mk (Kd.R_below (mR HO_4.out) hb); have n1_ := Aside0.mk (blk_below (g := gb537) (o := .cells #[.int .i64 a0_0, .int .i64 a0_1, .int .i64 a0_2, .slice A0_3 l0_3.length c0_3, .slice (some ad563) l0_4.length c0_4, .slice A0_5 l0_5.length c0_5, .slice A0_6 l0_6.length c0_6, .slice A0_7 l0_7.length c0_7] 67 (0, 0)) (mBK BK537.out) hb); have n2_ := Aside0.mk (below_step (mBs HB.out) hb); have n3_ := Aside0.mk (hbox); have n4_ := Aside0.mk ((by rw [hg]; exact (below_size (mBs HB.out)) : w.heap.size ≤ gb564)); have n5_ := Aside0.mk ((by rw [hg]; exact (below_size (mBs HB.out)) : w.heap.size ≤ gb564)); have n6_ := Aside0.mk ((by rw [hg]; exact Nat.ne_of_lt (blk_lt (g := gb537) (o := .cells #[.int .i64 a0_0, .int .i64 a0_1, .int .i64 a0_2, .slice A0_3 l0_3.length c0_3, .slice (some ad563) l0_4.length c0_4, .slice A0_5 l0_5.length c0_5, .slice A0_6 l0_6.length c0_6, .slice A0_7 l0_7.length c0_7] 67 (0, 0)) (mBK BK537.out)) : gb537 ≠ gb564)); have n7_ := Aside0.mk ((by rw [hg]; exact Nat.ne_of_gt (blk_lt (g := gb537) (o := .cells #[.int .i64 a0_0, .int .i64 a0_1, .int .i64 a0_2, .slice A0_3 l0_3.length c0_3, .slice (some ad563) l0_4.length c0_4, .slice A0_5 l0_5.length c0_5, .slice A0_6 l0_6.length c0_6, .slice A0_7 l0_7.length c0_7] 67 (0, 0)) (mBK BK537.out)) : gb564 ≠ gb537)); clear HO_4; clear BK537; clear HB; have HO_4 := n0_; have BK537 := n1_; have HB := n2_; have BK564 := n3_; have GW564 := n4_; have GE564 := n5_; have NB537_564 := n6_; have NB564_537 := n7_; clear n0_ n1_ n2_ n3_ n4_ n5_ n6_ n7_; clear hb hbox hg; have hnb48 := NB564_537.out; have hnc48 := NB537_564.out; have hcz49_0 : w47.cell? ⟨gb564, 0, none⟩ = some (.int .i64 0) := (blk_cell BK564.out 0).trans rfl; have hcz49_1 : w47.cell? ⟨gb564, 1, none⟩ = some (.int .i64 0) := (blk_cell BK564.out 1).trans rfl; have hcz49_2 : w47.cell? ⟨gb564, 2, none⟩ = some (.int .i64 0) := (blk_cell BK564.out 2).trans rfl; have hcz49_3 : w47.cell? ⟨gb564, 3, none⟩ = some (.int .i64 0) := (blk_cell BK564.out 3).trans rfl; have hcz49_4 : w47.cell? ⟨gb564, 4, none⟩ = some (.int .i64 0) := (blk_cell BK564.out 4).trans rfl; have hcz49_5 : w47.cell? ⟨gb564, 5, none⟩ = some (.int .i64 0) := (blk_cell BK564.out 5).trans rfl; have hfz49_0 := blk_frozen BK564.out 0; have hfz49_1 := blk_frozen BK564.out 1; have hfz49_2 := blk_frozen BK564.out 2; have hfz49_3 := blk_frozen BK564.out 3; have hfz49_4 := blk_frozen BK564.out 4; have hfz49_5 := blk_frozen BK564.out 5) | ((with_reducible refine gate_dst (N := 120) rfl ?_); (try (refine gate_guard (by rfl) ?_; dsimp only)); refine Kd.R_lit (Kd.int .i64) _ 3 ?hg (N := 120) ?hd (xs := ([(rd_T95 l0_4 x6_3).f0, (rd_T95 l0_4 x6_3).f1, (rd_T95 l0_4 x6_3).f2, (rd_T95 l0_4 x6_3).f3, (rd_T95 l0_4 x6_3).f4, (rd_T95 l0_4 x6_3).f5] : List Int)) (inner := [.int .i64 ((rd_T95 l0_4 x6_3).f0), .int .i64 ((rd_T95 l0_4 x6_3).f1), .int .i64 ((rd_T95 l0_4 x6_3).f2), .int .i64 ((rd_T95 l0_4 x6_3).f3), .int .i64 ((rd_T95 l0_4 x6_3).f4), .int .i64 ((rd_T95 l0_4 x6_3).f5)]) (ok := fun _ => True) (okp := fun _ => True) ?hr ?hp (fun _ hk => hk) trivial (Below.refl _ _) (Nat.le_refl _) (by simp) ?_; (case hd => rfl); (case hg => rfl); (case hr => first | (go_simp; done) | (go_simp; rfl)); (case hp => exact (Reps.one (show Kd.M (Kd.int .i64) _ _ _ ((rd_T95 l0_4 x6_3).f0) [.int .i64 ((rd_T95 l0_4 x6_3).f0)] from rfl) (Reps.one (show Kd.M (Kd.int .i64) _ _ _ ((rd_T95 l0_4 x6_3).f1) [.int .i64 ((rd_T95 l0_4 x6_3).f1)] from rfl) (Reps.one (show Kd.M (Kd.int .i64) _ _ _ ((rd_T95 l0_4 x6_3).f2) [.int .i64 ((rd_T95 l0_4 x6_3).f2)] from rfl) (Reps.one (show Kd.M (Kd.int .i64) _ _ _ ((rd_T95 l0_4 x6_3).f3) [.int .i64 ((rd_T95 l0_4 x6_3).f3)] from rfl) (Reps.one (show Kd.M (Kd.int .i64) _ _ _ ((rd_T95 l0_4 x6_3).f4) [.int .i64 ((rd_T95 l0_4 x6_3).f4)] from rfl) (Reps.one (show Kd.M (Kd.int .i64) _ _ _ ((rd_T95 l0_4 x6_3).f5) [.int .i64 ((rd_T95 l0_4 x6_3).f5)] from rfl) (Reps.none _ _)))))))); intro v566 w50 ho51 hb hg_ hnew_; clear hg_ hnew_; (first | rw [← Ny565.out] at ho51 | (simp only [Int.reduceToNat] at ho51; rw [← Ny565.out] at ho51)); have n0_ := Aside0.mk (Kd.R_below (by (with_reducible repeat (first | apply Kd.R_alloc | apply Kd.R_drewN | apply Kd.R_drew)); exact (Kd.R_mono (Kd.R_fa gb564 5 (Kd.R_fa gb564 4 (Kd.R_fa gb564 3 (Kd.R_fa gb564 2 (Kd.R_fa gb564 1 (Kd.R_fa gb564 0 (Kd.R_types HO_4.out BK564.out (by decide)) (.int .i64 ((rd_T95 l0_4 x6_3).f0))) (.int .i64 ((rd_T95 l0_4 x6_3).f1))) (.int .i64 ((rd_T95 l0_4 x6_3).f2))) (.int .i64 ((rd_T95 l0_4 x6_3).f3))) (.int .i64 ((rd_T95 l0_4 x6_3).f4))) (.int .i64 ((rd_T95 l0_4 x6_3).f5))) (fun _ h_ => h_.1))) hb); have n1_ := Aside0.mk (Kd.R_lower ho51 (below_size (mBs HB.out))); have n2_ := Aside0.mk (blk_below (g := gb537) (o := .cells #[.int .i64 a0_0, .int .i64 a0_1, .int .i64 a0_2, .slice A0_3 l0_3.length c0_3, .slice (some ad563) l0_4.length c0_4, .slice A0_5 l0_5.length c0_5, .slice A0_6 l0_6.length c0_6, .slice A0_7 l0_7.length c0_7] 67 (0, 0)) (by (with_reducible repeat first | apply blk_drewN | apply blk_drew | apply blk_alloc); refine blk_far ?_ NB537_564.out _; (with_reducible repeat first | apply blk_drewN | apply blk_drew | apply blk_alloc); refine blk_far ?_ NB537_564.out _; (with_reducible repeat first | apply blk_drewN | apply blk_drew | apply blk_alloc); refine blk_far ?_ NB537_564.out _; (with_reducible repeat first | apply blk_drewN | apply blk_drew | apply blk_alloc); refine blk_far ?_ NB537_564.out _; (with_reducible repeat first | apply blk_drewN | apply blk_drew | apply blk_alloc); refine blk_far ?_ NB537_564.out _; (with_reducible repeat first | apply blk_drewN | apply blk_drew | apply blk_alloc); refine blk_far ?_ NB537_564.out _; (with_reducible repeat first | apply blk_drewN | apply blk_drew | apply blk_alloc); exact BK537.out) hb); have n3_ := Aside0.mk (blk_below (g := gb564) (o := .cells #[.int .i64 ((rd_T95 l0_4 x6_3).f0), .int .i64 ((rd_T95 l0_4 x6_3).f1), .int .i64 ((rd_T95 l0_4 x6_3).f2), .int .i64 ((rd_T95 l0_4 x6_3).f3), .int .i64 ((rd_T95 l0_4 x6_3).f4), .int .i64 ((rd_T95 l0_4 x6_3).f5)] 95 (0, 0)) (by (with_reducible repeat first | apply blk_drewN | apply blk_drew | apply blk_alloc); refine blk_put (cs := #[.int .i64 ((rd_T95 l0_4 x6_3).f0), .int .i64 ((rd_T95 l0_4 x6_3).f1), .int .i64 ((rd_T95 l0_4 x6_3).f2), .int .i64 ((rd_T95 l0_4 x6_3).f3), .int .i64 ((rd_T95 l0_4 x6_3).f4), .int .i64 0]) ?_ 5 _ rfl; (with_reducible repeat first | apply blk_drewN | apply blk_drew | apply blk_alloc); refine blk_put (cs := #[.int .i64 ((rd_T95 l0_4 x6_3).f0), .int .i64 ((rd_T95 l0_4 x6_3).f1), .int .i64 ((rd_T95 l0_4 x6_3).f2), .int .i64 ((rd_T95 l0_4 x6_3).f3), .int .i64 0, .int .i64 0]) ?_ 4 _ rfl; (with_reducible repeat first | apply blk_drewN | apply blk_drew | apply blk_alloc); refine blk_put (cs := #[.int .i64 ((rd_T95 l0_4 x6_3).f0), .int .i64 ((rd_T95 l0_4 x6_3).f1), .int .i64 ((rd_T95 l0_4 x6_3).f2), .int .i64 0, .int .i64 0, .int .i64 0]) ?_ 3 _ rfl; (with_reducible repeat first | apply blk_drewN | apply blk_drew | apply blk_alloc); refine blk_put (cs := #[.int .i64 ((rd_T95 l0_4 x6_3).f0), .int .i64 ((rd_T95 l0_4 x6_3).f1), .int .i64 0, .int .i64 0, .int .i64 0, .int .i64 0]) ?_ 2 _ rfl; (with_reducible repeat first | apply blk_drewN | apply blk_drew | apply blk_alloc); refine blk_put (cs := #[.int .i64 ((rd_T95 l0_4 x6_3).f0), .int .i64 0, .int .i64 0, .int .i64 0, .int .i64 0, .int .i64 0]) ?_ 1 _ rfl; (with_reducible repeat first | apply blk_drewN | apply blk_drew | apply blk_alloc); refine blk_put (cs := #[.int .i64 0, .int .i64 0, .int .i64 0, .int .i64 0, .int .i64 0, .int .i64 0]) ?_ 0 _ rfl; (with_reducible repeat first | apply blk_drewN | apply blk_drew | apply blk_alloc); exact BK564.out) hb); have n4_ := Aside0.mk (below_step (mBs HB.out) hb); clear HO_4; clear BK537; clear BK564; clear HB; have HO_4 := n0_; have HO567 := n1_; have BK537 := n2_; have BK564 := n3_; have HB := n4_; clear n0_ n1_ n2_ n3_ n4_; clear hb ho51; obtain ⟨Ao52, co52, eo52⟩ := Kd.R_slice HO_4.out; subst eo52; obtain ⟨Ao53, co53, eo53⟩ := Kd.R_slice HO567.out; subst eo53) | ((with_reducible refine gate_callee (f := 51) rfl ?_); refine goesL_ (some 121) rfl rfl Try.func51 (by kernel_rfl) rfl #[.slice Ao52 x4_3.length co52, .slice Ao53 y565.length co53] rfl mt ?_; (with_reducible refine (prebendref13_nums.calls k3 (fun k_ => some k_ = (.slice Ao52 x4_3.length co52 : Value).ownBlock) (.slice Ao52 x4_3.length co52) x4_3 _ _ y565 t568 w _ ?side1 ?side2 ?side3 ?side4 A45.out).mono ?_); (case side1 => repeat (first | (with_reducible first | exact HB.out | apply below_alloc | apply pw_below_drewN | apply below_drew1 | refine below_set ?_ GE537.out | refine below_set ?_ GE564.out) | exact HB.out)); (case side2 => exact Kd.R_tight rfl HO_4.out); (case side3 => exact Kd.C_kept_own ((Kd.R_apart' HO567.out (Kd.R_typed HO_4.out) (by decide))) (fun k_ hk_ hs_ => (hk_.2) hs_)); (case side4 => exact (Kd.R_reads' HO567.out).2.1); rintro e w54 ⟨v569, rfl, ho0, hb, hkp⟩; refine ⟨_, rfl, ?_⟩; have n0_ := Aside0.mk (blk_kept (mBK BK537.out) hkp (fun hs_ => (fun e_ => (Kd.R_ne HO_4.out BK537.out (by decide)) e_) hs_)); have n1_ := Aside0.mk (blk_kept (mBK BK564.out) hkp (fun hs_ => (fun e_ => (Kd.R_ne HO_4.out BK564.out (by decide)) e_) hs_)); have n2_ := Aside0.mk (Kd.R_mono (ok' := fun k_ => True) (Kd.R_keptB ((Kd.R_apart' HO567.out (Kd.R_typed HO_4.out) (by decide))) hkp (fun k_ hk_ hs_ => (hk_.2) hs_)) (fun k_ hk_ => trivial)); have n3_ := Aside0.mk (Kd.R_mono (ok' := fun k_ => True) ho0 (fun k_ hk_ => trivial)); have n4_ := Aside0.mk (hb); clear BK537; clear BK564; clear HO567; clear HB; clear HO_4; have BK537 := n0_; have BK564 := n1_; have HO567 := n2_; have HO570 := n3_; have HB := n4_; clear n0_ n1_ n2_ n3_ n4_; (try clear hb); (try clear hkp); (try clear ho0)))
           go_roundg k3
           case measure => have := HJ1.out; have := HK2.out; have := HK3.out; omega
           case rel => exact ⟨(t568), (wrap64 (x6_3 + 1)), ez, H', ⟨by have := HJ1.out; have := HK2.out; have := HK3.out; omega⟩, ⟨mR HO570.out⟩, ⟨mBK BK537.out⟩, ⟨mBs HB.out⟩⟩
          ·rw [if_neg c44] at H
           exact absurd H (by simp)
         ·rw [if_neg c43] at H
          have c43b0 : decide (x6_3 < (l0_4.length : Int)) = false := decide_eq_false c43
          clear c43
          obtain ⟨y571, hy571⟩ : ∃ y_ : List Int, y_ = (([(l0_5.length : Int)] : List Int)) := ⟨_, rfl⟩
          replace H : ((prebendref13_nums.f k3 x4_3 y571).bind fun t574 => (prebendref13_Encode.l2 k3 t574 0 a0_0 a0_1 a0_2 l0_3 l0_4 l0_5 l0_6 l0_7)) = some (r1, r2) := mH hy571 H
          have Ny571 := Aside0.mk hy571
          clear hy571
          replace H := Option.bind_eq_some_iff.mp H
          obtain ⟨t574, A550, H⟩ := H
          replace H : (prebendref13_Encode.l2 k3 t574 0 a0_0 a0_1 a0_2 l0_3 l0_4 l0_5 l0_6 l0_7) = some (r1, r2) := H
          have A55 := Aside0.mk A550
          clear A550
          have H' := Aside0.mk H
          clear H
          have hcz56_0 : wr.cell? ⟨gb537, 0, none⟩ = some (.int .i64 a0_0) := (blk_cell BK537.out 0).trans rfl
          have hcz56_1 : wr.cell? ⟨gb537, 1, none⟩ = some (.int .i64 a0_1) := (blk_cell BK537.out 1).trans rfl
          have hcz56_2 : wr.cell? ⟨gb537, 2, none⟩ = some (.int .i64 a0_2) := (blk_cell BK537.out 2).trans rfl
          have hcz56_3 : wr.cell? ⟨gb537, 3, none⟩ = some (.slice A0_3 l0_3.length c0_3) := (blk_cell BK537.out 3).trans rfl
          have hcz56_4 : wr.cell? ⟨gb537, 4, none⟩ = some (.slice A0_4 l0_4.length c0_4) := (blk_cell BK537.out 4).trans rfl
          have hcz56_5 : wr.cell? ⟨gb537, 5, none⟩ = some (.slice A0_5 l0_5.length c0_5) := (blk_cell BK537.out 5).trans rfl
          have hcz56_6 : wr.cell? ⟨gb537, 6, none⟩ = some (.slice A0_6 l0_6.length c0_6) := (blk_cell BK537.out 6).trans rfl
          have hcz56_7 : wr.cell? ⟨gb537, 7, none⟩ = some (.slice A0_7 l0_7.length c0_7) := (blk_cell BK537.out 7).trans rfl
          have hfz56_0 := blk_frozen BK537.out 0
          have hfz56_1 := blk_frozen BK537.out 1
          have hfz56_2 := blk_frozen BK537.out 2
          have hfz56_3 := blk_frozen BK537.out 3
          have hfz56_4 := blk_frozen BK537.out 4
          have hfz56_5 := blk_frozen BK537.out 5
          have hfz56_6 := blk_frozen BK537.out 6
          have hfz56_7 := blk_frozen BK537.out 7
          go_wp2_with (first | ((with_reducible refine gate_dst (N := 126) rfl ?_); (try (refine gate_guard (by rfl) ?_; dsimp only)); refine Kd.R_lit (Kd.int .i64) _ 3 ?hg (N := 126) ?hd (xs := ([(l0_5.length : Int)] : List Int)) (inner := [.int .i64 (l0_5.length : Int)]) (ok := fun _ => True) (okp := fun _ => True) ?hr ?hp (fun _ hk => hk) trivial (Below.refl _ _) (Nat.le_refl _) (by simp) ?_; (case hd => rfl); (case hg => rfl); (case hr => first | (go_simp; done) | (go_simp; rfl)); (case hp => exact (Reps.one (show Kd.M (Kd.int .i64) _ _ _ (l0_5.length : Int) [.int .i64 (l0_5.length : Int)] from rfl) (Reps.none _ _))); intro v572 w57 ho58 hb hg_ hnew_; clear hg_ hnew_; (first | rw [← Ny571.out] at ho58 | (simp only [Int.reduceToNat] at ho58; rw [← Ny571.out] at ho58)); have n0_ := Aside0.mk (Kd.R_below (mR HO_4.out) hb); have n1_ := Aside0.mk (Kd.R_lower ho58 (below_size (mBs HB.out))); have n2_ := Aside0.mk (blk_below (g := gb537) (o := .cells #[.int .i64 a0_0, .int .i64 a0_1, .int .i64 a0_2, .slice A0_3 l0_3.length c0_3, .slice A0_4 l0_4.length c0_4, .slice A0_5 l0_5.length c0_5, .slice A0_6 l0_6.length c0_6, .slice A0_7 l0_7.length c0_7] 67 (0, 0)) (mBK BK537.out) hb); have n3_ := Aside0.mk (below_step (mBs HB.out) hb); clear HO_4; clear BK537; clear HB; have HO_4 := n0_; have HO573 := n1_; have BK537 := n2_; have HB := n3_; clear n0_ n1_ n2_ n3_; clear hb ho58; obtain ⟨Ao59, co59, eo59⟩ := Kd.R_slice HO_4.out; subst eo59; obtain ⟨Ao60, co60, eo60⟩ := Kd.R_slice HO573.out; subst eo60) | ((with_reducible refine gate_callee (f := 51) rfl ?_); refine goesL_ (some 127) rfl rfl Try.func51 (by kernel_rfl) rfl #[.slice Ao59 x4_3.length co59, .slice Ao60 y571.length co60] rfl mt ?_; (with_reducible refine (prebendref13_nums.calls k3 (fun k_ => some k_ = (.slice Ao59 x4_3.length co59 : Value).ownBlock) (.slice Ao59 x4_3.length co59) x4_3 _ _ y571 t574 w _ ?side1 ?side2 ?side3 ?side4 A55.out).mono ?_); (case side1 => repeat (first | (with_reducible first | exact HB.out | apply below_alloc | apply pw_below_drewN | apply below_drew1 | refine below_set ?_ GE537.out) | exact HB.out)); (case side2 => exact Kd.R_tight rfl HO_4.out); (case side3 => exact Kd.C_kept_own ((Kd.R_apart' HO573.out (Kd.R_typed HO_4.out) (by decide))) (fun k_ hk_ hs_ => (hk_.2) hs_)); (case side4 => exact (Kd.R_reads' HO573.out).2.1); rintro e w61 ⟨v575, rfl, ho0, hb, hkp⟩; refine ⟨_, rfl, ?_⟩; have n0_ := Aside0.mk (blk_kept (mBK BK537.out) hkp (fun hs_ => (fun e_ => (Kd.R_ne HO_4.out BK537.out (by decide)) e_) hs_)); have n1_ := Aside0.mk (Kd.R_mono (ok' := fun k_ => True) (Kd.R_keptB ((Kd.R_apart' HO573.out (Kd.R_typed HO_4.out) (by decide))) hkp (fun k_ hk_ hs_ => (hk_.2) hs_)) (fun k_ hk_ => trivial)); have n2_ := Aside0.mk (Kd.R_mono (ok' := fun k_ => True) ho0 (fun k_ hk_ => trivial)); have n3_ := Aside0.mk (hb); clear BK537; clear HO573; clear HB; clear HO_4; have BK537 := n0_; have HO573 := n1_; have HO576 := n2_; have HB := n3_; clear n0_ n1_ n2_ n3_; (try clear hb); (try clear hkp); (try clear ho0)))
          go_loopg [4, 8] k3 (fun kq v4 v8 w' => ∃ (x4_4 : List Int) (x8_4 : Int), v8 = .int .i64 x8_4 ∧ Aside0 (prebendref13_Encode.l2 kq x4_4 x8_4 a0_0 a0_1 a0_2 l0_3 l0_4 l0_5 l0_6 l0_7 = some (r1, r2)) ∧ Aside0 (kq ≤ k3) ∧ Aside0 (Kd.R (Kd.int .u8) 5 w' w.heap.size (fun _ => True) v4 x4_4) ∧ Aside0 (w'.heap[gb537]? = some (.cells #[.int .i64 a0_0, .int .i64 a0_1, .int .i64 a0_2, (.slice A0_3 l0_3.length c0_3), (.slice A0_4 l0_4.length c0_4), (.slice A0_5 l0_5.length c0_5), (.slice A0_6 l0_6.length c0_6), (.slice A0_7 l0_7.length c0_7)] 67 (0, 0))) ∧ Aside0 (Below w.heap.size w w'))
          case atStart => exact ⟨(t574), (0), ez, H', ⟨Nat.le_refl _⟩, ⟨mR HO576.out⟩, ⟨mBK BK537.out⟩, ⟨mBs HB.out⟩⟩
          case round =>
           clear H'
           (try clear c2); (try clear p2); (try clear c4); (try clear c5); (try clear p5); (try clear q5); (try clear hx5); (try clear p6); (try clear c20); (try clear c20b0); (try clear c21); (try clear c21b0); (try clear c22); (try clear c22b0); (try clear c22b1); (try clear c43); (try clear c43b0); (try clear c44); (try clear c44b0); (try clear c48); (try clear c51); (try clear p54); (try clear q54); (try clear hx54); (try clear p55); (try clear q55); (try clear hx55); (try clear p56); (try clear q56); (try clear hx56); (try clear hcz23_0); (try clear hcz23_1); (try clear hcz23_2); (try clear hcz23_3); (try clear hcz23_4); (try clear hcz23_5); (try clear hcz23_6); (try clear hcz23_7); (try clear hcz26_0); (try clear hcz26_1); (try clear hcz26_2); (try clear hcz26_3); (try clear hcz26_4); (try clear hcz26_5); (try clear hcz26_6); (try clear hcz26_7); (try clear hcz37_0); (try clear hcz37_1); (try clear hcz37_2); (try clear hcz37_3); (try clear hcz37_4); (try clear hcz37_5); (try clear hcz37_6); (try clear hcz37_7); (try clear hcz46_0); (try clear hcz46_1); (try clear hcz46_2); (try clear hcz46_3); (try clear hcz46_4); (try clear hcz46_5); (try clear hcz46_6); (try clear hcz46_7); (try clear hcz49_0); (try clear hcz49_1); (try clear hcz49_2); (try clear hcz49_3); (try clear hcz49_4); (try clear hcz49_5); (try clear hcz56_0); (try clear hcz56_1); (try clear hcz56_2); (try clear hcz56_3); (try clear hcz56_4); (try clear hcz56_5); (try clear hcz56_6); (try clear hcz56_7); (try clear hcz5_5); (try clear hcz5_6); (try clear hcz5_7); (try clear hcz7_0); (try clear hcz7_1); (try clear hcz7_2); (try clear hcz7_3); (try clear hcz7_4); (try clear hcz7_5); (try clear hcz7_6); (try clear hcz7_7); (try clear hcz9_0); (try clear hcz9_1); (try clear hcz9_2); (try clear hcz9_3); (try clear hcz9_4); (try clear hcz9_5); (try clear hcz9_6); (try clear hcz9_7); (try clear hfz11_0); (try clear hfz11_1); (try clear hfz11_2); (try clear hfz11_3); (try clear hfz11_4); (try clear hfz11_5); (try clear hfz11_6); (try clear hfz11_7); (try clear hfz12_0); (try clear hfz12_1); (try clear hfz12_2); (try clear hfz12_3); (try clear hfz12_4); (try clear hfz12_5); (try clear hfz12_6); (try clear hfz12_7); (try clear hfz15_0); (try clear hfz15_1); (try clear hfz15_2); (try clear hfz15_3); (try clear hfz15_4); (try clear hfz15_5); (try clear hfz15_6); (try clear hfz15_7); (try clear hfz23_0); (try clear hfz23_1); (try clear hfz23_2); (try clear hfz23_3); (try clear hfz23_4); (try clear hfz23_5); (try clear hfz23_6); (try clear hfz23_7); (try clear hfz26_0); (try clear hfz26_1); (try clear hfz26_2); (try clear hfz26_3); (try clear hfz26_4); (try clear hfz26_5); (try clear hfz26_6); (try clear hfz26_7); (try clear hfz37_0); (try clear hfz37_1); (try clear hfz37_2); (try clear hfz37_3); (try clear hfz37_4); (try clear hfz37_5); (try clear hfz37_6); (try clear hfz37_7); (try clear hfz46_0); (try clear hfz46_1); (try clear hfz46_2); (try clear hfz46_3); (try clear hfz46_4); (try clear hfz46_5); (try clear hfz46_6); (try clear hfz46_7); (try clear hfz49_0); (try clear hfz49_1); (try clear hfz49_2); (try clear hfz49_3); (try clear hfz49_4); (try clear hfz49_5); (try clear hfz56_0); (try clear hfz56_1); (try clear hfz56_2); (try clear hfz56_3); (try clear hfz56_4); (try clear hfz56_5); (try clear hfz56_6); (try clear hfz56_7); (try clear hfz5_0); (try clear hfz5_1); (try clear hfz5_2); (try clear hfz5_3); (try clear hfz5_4); (try clear hfz5_5); (try clear hfz5_6); (try clear hfz5_7); (try clear hfz7_0); (try clear hfz7_1); (try clear hfz7_2); (try clear hfz7_3); (try clear hfz7_4); (try clear hfz7_5); (try clear hfz7_6); (try clear hfz7_7); (try clear hfz9_0); (try clear hfz9_1); (try clear hfz9_2); (try clear hfz9_3); (try clear hfz9_4); (try clear hfz9_5); (try clear hfz9_6); (try clear hfz9_7); (try clear hx544_0); (try clear hx544_1); (try clear hx544_2); (try clear hx545_0); (try clear hx545_1); (try clear hx545_2); (try clear hx549_0); (try clear hx549_1); (try clear hx549_2); (try clear hx550_0); (try clear hx550_1); (try clear hx550_2); (try clear hx563_0); (try clear hx563_1); (try clear hx563_2); (try clear hx563_3); (try clear hx563_4); (try clear hx563_5); (try clear p2); (try clear p5); (try clear p544); (try clear p545); (try clear p549); (try clear p550); (try clear p563); (try clear p6); (try clear q5); (try clear q544); (try clear q545); (try clear q549); (try clear q550); (try clear q563)
           obtain ⟨x4_4, x8_4, rfl, HA, HK4, HO_4, BK537, HB⟩ := hrel
           cases gk with
           | zero => exact absurd HA.out (by simp [prebendref13_Encode.l2])
           | succ k4 =>
            have H := HA.out
            clear HA
            simp only [prebendref13_Encode.l2] at H
            by_cases c62 : x8_4 < (l0_5.length : Int)
            ·rw [if_pos c62] at H
             have c62b0 : decide (x8_4 < (l0_5.length : Int)) = true := decide_eq_true c62
             clear c62
             by_cases c63 : 0 ≤ x8_4
             ·rw [if_pos c63] at H
              have c63b0 : decide (0 ≤ x8_4) = true := decide_eq_true c63
              clear c63
              obtain ⟨y580, hy580⟩ : ∃ y_ : List Int, y_ = (([(rd_T97 l0_5 x8_4).f0, (rd_T97 l0_5 x8_4).f1, (rd_T97 l0_5 x8_4).f2] : List Int)) := ⟨_, rfl⟩
              replace H : ((prebendref13_nums.f k4 x4_4 y580).bind fun t583 => (prebendref13_Encode.l2 k4 t583 (wrap64 (x8_4 + 1)) a0_0 a0_1 a0_2 l0_3 l0_4 l0_5 l0_6 l0_7)) = some (r1, r2) := mH hy580 H
              have Ny580 := Aside0.mk hy580
              clear hy580
              replace H := Option.bind_eq_some_iff.mp H
              obtain ⟨t583, A640, H⟩ := H
              replace H : (prebendref13_Encode.l2 k4 t583 (wrap64 (x8_4 + 1)) a0_0 a0_1 a0_2 l0_3 l0_4 l0_5 l0_6 l0_7) = some (r1, r2) := H
              have A64 := Aside0.mk A640
              clear A640
              have H' := Aside0.mk H
              clear H
              have hcz65_0 : wr.cell? ⟨gb537, 0, none⟩ = some (.int .i64 a0_0) := (blk_cell BK537.out 0).trans rfl
              have hcz65_1 : wr.cell? ⟨gb537, 1, none⟩ = some (.int .i64 a0_1) := (blk_cell BK537.out 1).trans rfl
              have hcz65_2 : wr.cell? ⟨gb537, 2, none⟩ = some (.int .i64 a0_2) := (blk_cell BK537.out 2).trans rfl
              have hcz65_3 : wr.cell? ⟨gb537, 3, none⟩ = some (.slice A0_3 l0_3.length c0_3) := (blk_cell BK537.out 3).trans rfl
              have hcz65_4 : wr.cell? ⟨gb537, 4, none⟩ = some (.slice A0_4 l0_4.length c0_4) := (blk_cell BK537.out 4).trans rfl
              have hcz65_5 : wr.cell? ⟨gb537, 5, none⟩ = some (.slice A0_5 l0_5.length c0_5) := (blk_cell BK537.out 5).trans rfl
              have hcz65_6 : wr.cell? ⟨gb537, 6, none⟩ = some (.slice A0_6 l0_6.length c0_6) := (blk_cell BK537.out 6).trans rfl
              have hcz65_7 : wr.cell? ⟨gb537, 7, none⟩ = some (.slice A0_7 l0_7.length c0_7) := (blk_cell BK537.out 7).trans rfl
              have hfz65_0 := blk_frozen BK537.out 0
              have hfz65_1 := blk_frozen BK537.out 1
              have hfz65_2 := blk_frozen BK537.out 2
              have hfz65_3 := blk_frozen BK537.out 3
              have hfz65_4 := blk_frozen BK537.out 4
              have hfz65_5 := blk_frozen BK537.out 5
              have hfz65_6 := blk_frozen BK537.out 6
              have hfz65_7 := blk_frozen BK537.out 7
              try go_wp2
              have n0_ := Aside0.mk (Kd.R_drew HO_4.out)
              have n1_ := Aside0.mk (blk_drew BK537.out)
              have n2_ := Aside0.mk (below_drew1 HB.out)
              clear HO_4; clear BK537; clear HB
              have HO_4 := n0_
              have BK537 := n1_
              have HB := n2_
              clear n0_; clear n1_; clear n2_
              have p577 : 0 ≤ (x8_4 : Int) := oda
              have q577 : x8_4 < (l0_5.length : Int) := oda
              obtain ⟨ad577, e577, hx577_0, hx577_1, hx577_2⟩ := at_T97 HR0_5.out x8_4 p577 q577
              have hw577_2 := hx577_2
              have hw577_1 := hx577_1
              have hw577_0 := hx577_0
              cases e577
              replace hx577_0 := (HB.out.cell (World.block_lt_of_cell? w _ hx577_0)).trans hx577_0
              replace hx577_1 := (HB.out.cell (World.block_lt_of_cell? w _ hx577_1)).trans hx577_1
              replace hx577_2 := (HB.out.cell (World.block_lt_of_cell? w _ hx577_2)).trans hx577_2
              replace p577 := eq_true p577
              replace q577 := eq_true q577
              have p578 : 0 ≤ (x8_4 : Int) := oda
              have q578 : x8_4 < (l0_5.length : Int) := oda
              obtain ⟨ad578, e578, hx578_0, hx578_1, hx578_2⟩ := at_T97 HR0_5.out x8_4 p578 q578
              have hw578_2 := hx578_2
              have hw578_1 := hx578_1
              have hw578_0 := hx578_0
              obtain rfl : ad577 = ad578 := (by injection e578)
              replace hx578_0 := (HB.out.cell (World.block_lt_of_cell? w _ hx578_0)).trans hx578_0
              replace hx578_1 := (HB.out.cell (World.block_lt_of_cell? w _ hx578_1)).trans hx578_1
              replace hx578_2 := (HB.out.cell (World.block_lt_of_cell? w _ hx578_2)).trans hx578_2
              replace p578 := eq_true p578
              replace q578 := eq_true q578
              have p579 : 0 ≤ (x8_4 : Int) := oda
              have q579 : x8_4 < (l0_5.length : Int) := oda
              obtain ⟨ad579, e579, hx579_0, hx579_1, hx579_2⟩ := at_T97 HR0_5.out x8_4 p579 q579
              have hw579_2 := hx579_2
              have hw579_1 := hx579_1
              have hw579_0 := hx579_0
              obtain rfl : ad577 = ad579 := (by injection e579)
              replace hx579_0 := (HB.out.cell (World.block_lt_of_cell? w _ hx579_0)).trans hx579_0
              replace hx579_1 := (HB.out.cell (World.block_lt_of_cell? w _ hx579_1)).trans hx579_1
              replace hx579_2 := (HB.out.cell (World.block_lt_of_cell? w _ hx579_2)).trans hx579_2
              replace p579 := eq_true p579
              replace q579 := eq_true q579
              refine start_ (n := 22) (S := fun w' => w'.cell? ⟨gb537, 0, none⟩ = some (.int .i64 a0_0) ∧ w'.cell? ⟨gb537, 1, none⟩ = some (.int .i64 a0_1) ∧ w'.cell? ⟨gb537, 2, none⟩ = some (.int .i64 a0_2) ∧ w'.cell? ⟨gb537, 3, none⟩ = some (.slice A0_3 l0_3.length c0_3) ∧ w'.cell? ⟨gb537, 4, none⟩ = some (.slice A0_4 l0_4.length c0_4) ∧ w'.cell? ⟨gb537, 5, none⟩ = some (.slice (some ad577) l0_5.length c0_5) ∧ w'.cell? ⟨gb537, 6, none⟩ = some (.slice A0_6 l0_6.length c0_6) ∧ w'.cell? ⟨gb537, 7, none⟩ = some (.slice A0_7 l0_7.length c0_7) ∧ w'.cell? (ad577.add ((x8_4).toNat * 3)) = some (.int .i64 ((rd_T97 l0_5 x8_4).f0)) ∧ w'.cell? ⟨(ad577.add ((x8_4).toNat * 3)).block, (ad577.add ((x8_4).toNat * 3)).off + 1, none⟩ = some (.int .i64 ((rd_T97 l0_5 x8_4).f1)) ∧ w'.cell? ⟨(ad577.add ((x8_4).toNat * 3)).block, (ad577.add ((x8_4).toNat * 3)).off + 2, none⟩ = some (.int .i64 ((rd_T97 l0_5 x8_4).f2)) ∧ w'.cell? (ad577.add ((x8_4).toNat * 3)) = some (.int .i64 ((rd_T97 l0_5 x8_4).f0)) ∧ w'.cell? ⟨(ad577.add ((x8_4).toNat * 3)).block, (ad577.add ((x8_4).toNat * 3)).off + 1, none⟩ = some (.int .i64 ((rd_T97 l0_5 x8_4).f1)) ∧ w'.cell? ⟨(ad577.add ((x8_4).toNat * 3)).block, (ad577.add ((x8_4).toNat * 3)).off + 2, none⟩ = some (.int .i64 ((rd_T97 l0_5 x8_4).f2)) ∧ w'.cell? (ad577.add ((x8_4).toNat * 3)) = some (.int .i64 ((rd_T97 l0_5 x8_4).f0)) ∧ w'.cell? ⟨(ad577.add ((x8_4).toNat * 3)).block, (ad577.add ((x8_4).toNat * 3)).off + 1, none⟩ = some (.int .i64 ((rd_T97 l0_5 x8_4).f1)) ∧ w'.cell? ⟨(ad577.add ((x8_4).toNat * 3)).block, (ad577.add ((x8_4).toNat * 3)).off + 2, none⟩ = some (.int .i64 ((rd_T97 l0_5 x8_4).f2))) (ds := []) #[false, false, false, false, false, false, false, false, false, false, false, false, false, false, false, false, false, false, false, false, false, false] (by kernel_rfl) rfl rfl ⟨(blk_cell BK537.out 0).trans rfl, (blk_cell BK537.out 1).trans rfl, (blk_cell BK537.out 2).trans rfl, (blk_cell BK537.out 3).trans rfl, (blk_cell BK537.out 4).trans rfl, (blk_cell BK537.out 5).trans rfl, (blk_cell BK537.out 6).trans rfl, (blk_cell BK537.out 7).trans rfl, ((HB.out.cell (World.block_lt_of_cell? w _ hw577_0)).trans hw577_0), ((HB.out.cell (World.block_lt_of_cell? w _ hw577_1)).trans hw577_1), ((HB.out.cell (World.block_lt_of_cell? w _ hw577_2)).trans hw577_2), ((HB.out.cell (World.block_lt_of_cell? w _ hw578_0)).trans hw578_0), ((HB.out.cell (World.block_lt_of_cell? w _ hw578_1)).trans hw578_1), ((HB.out.cell (World.block_lt_of_cell? w _ hw578_2)).trans hw578_2), ((HB.out.cell (World.block_lt_of_cell? w _ hw579_0)).trans hw579_0), ((HB.out.cell (World.block_lt_of_cell? w _ hw579_1)).trans hw579_1), ((HB.out.cell (World.block_lt_of_cell? w _ hw579_2)).trans hw579_2)⟩ (fun hHeld => ?_); refine with_tabW prebendref13_Encode.tab20 prebendref13_Encode.bits20 (fun HT_ HW_ => ?_)
              generalize wr.drew = w66 at HO_4 BK537 HB hx577_0 hx577_1 hx577_2 hx578_0 hx578_1 hx578_2 hx579_0 hx579_1 hx579_2 hHeld ⊢
              refine plan_ [(0, 135), (1, 136), (3, 138), (7, 142), (9, 144), (13, 148), (15, 150)] ?_
              iterate 7 (refine planP_ (v := ?_) (a' := ?_) rfl rfl (any_of HT_.out (by kernel_rfl)) (fun _ _ _ h => h) (Or.inl ⟨by rfl, ?_⟩) ?_ ?_; rotate_left; (intro w'; go_simp; with_reducible rfl); rotate_left; (simp only [Act.put, List.setIfInBounds_toArray, List.set_cons_zero, List.set_cons_succ, i64_w, i32_w]; rfl))
              refine planEnd_ ?_
              refine plan_ [(2, 137)] ?_
              refine planT_ (v := ?_) (a' := ?_) rfl rfl (take_ofW HT_.out HW_.out (by kernel_rfl)) (fun _ _ _ h => h) (Or.inl ⟨by rfl, ?_⟩) hHeld ?_ ?_; rotate_left; (rintro w' ⟨s0, s1, s2, s3, s4, s5, s6, s7, s8, s9, s10, s11, s12, s13, s14, s15, s16⟩; go_simp; with_reducible rfl); rotate_left; (simp only [Act.put, List.setIfInBounds_toArray, List.set_cons_zero, List.set_cons_succ, i64_w, i32_w]; rfl)
              refine planEnd_ ?_
              refine plan_ [(4, 139), (5, 140)] ?_
              iterate 2 (refine planP_ (v := ?_) (a' := ?_) rfl rfl (any_of HT_.out (by kernel_rfl)) (fun _ _ _ h => h) (Or.inl ⟨by rfl, ?_⟩) ?_ ?_; rotate_left; (intro w'; go_simp; with_reducible rfl); rotate_left; (simp only [Act.put, List.setIfInBounds_toArray, List.set_cons_zero, List.set_cons_succ, i64_w, i32_w]; rfl))
              refine planEnd_ ?_
              refine plan_ [(6, 141), (8, 143)] ?_
              iterate 2 (refine planT_ (v := ?_) (a' := ?_) rfl rfl (take_ofW HT_.out HW_.out (by kernel_rfl)) (fun _ _ _ h => h) (Or.inl ⟨by rfl, ?_⟩) hHeld ?_ ?_; rotate_left; (rintro w' ⟨s0, s1, s2, s3, s4, s5, s6, s7, s8, s9, s10, s11, s12, s13, s14, s15, s16⟩; go_simp; with_reducible rfl); rotate_left; (simp only [Act.put, List.setIfInBounds_toArray, List.set_cons_zero, List.set_cons_succ, i64_w, i32_w]; rfl))
              refine planEnd_ ?_
              refine plan_ [(10, 145), (11, 146)] ?_
              iterate 2 (refine planP_ (v := ?_) (a' := ?_) rfl rfl (any_of HT_.out (by kernel_rfl)) (fun _ _ _ h => h) (Or.inl ⟨by rfl, ?_⟩) ?_ ?_; rotate_left; (intro w'; go_simp; with_reducible rfl); rotate_left; (simp only [Act.put, List.setIfInBounds_toArray, List.set_cons_zero, List.set_cons_succ, i64_w, i32_w]; rfl))
              refine planEnd_ ?_
              refine plan_ [(12, 147), (14, 149)] ?_
              iterate 2 (refine planT_ (v := ?_) (a' := ?_) rfl rfl (take_ofW HT_.out HW_.out (by kernel_rfl)) (fun _ _ _ h => h) (Or.inl ⟨by rfl, ?_⟩) hHeld ?_ ?_; rotate_left; (rintro w' ⟨s0, s1, s2, s3, s4, s5, s6, s7, s8, s9, s10, s11, s12, s13, s14, s15, s16⟩; go_simp; with_reducible rfl); rotate_left; (simp only [Act.put, List.setIfInBounds_toArray, List.set_cons_zero, List.set_cons_succ, i64_w, i32_w]; rfl))
              refine planEnd_ ?_
              refine plan_ [(16, 151), (17, 152)] ?_
              iterate 2 (refine planP_ (v := ?_) (a' := ?_) rfl rfl (any_of HT_.out (by kernel_rfl)) (fun _ _ _ h => h) (Or.inl ⟨by rfl, ?_⟩) ?_ ?_; rotate_left; (intro w'; go_simp; with_reducible rfl); rotate_left; (simp only [Act.put, List.setIfInBounds_toArray, List.set_cons_zero, List.set_cons_succ, i64_w, i32_w]; rfl))
              refine planEnd_ ?_
              refine plan_ [(18, 153)] ?_
              refine planT_ (v := ?_) (a' := ?_) rfl rfl (take_ofW HT_.out HW_.out (by kernel_rfl)) (fun _ _ _ h => h) (Or.inl ⟨by rfl, ?_⟩) hHeld ?_ ?_; rotate_left; (rintro w' ⟨s0, s1, s2, s3, s4, s5, s6, s7, s8, s9, s10, s11, s12, s13, s14, s15, s16⟩; go_simp; with_reducible rfl); rotate_left; (simp only [Act.put, List.setIfInBounds_toArray, List.set_cons_zero, List.set_cons_succ, i64_w, i32_w]; rfl)
              refine planEnd_ ?_
              refine one_ (i := 19) (N := some 154) #[true, true, true, true, true, true, true, true, true, true, true, true, true, true, true, true, true, true, true, true, false, false] rfl rfl (one_of HT_.out (by kernel_rfl)) (by decide) (fun K hK => ?_)
              refine Kd.R_lit_step (Kd.int .i64) _ 3 ?hg (N := 154) ?hd (xs := ([(rd_T97 l0_5 x8_4).f0, (rd_T97 l0_5 x8_4).f1, (rd_T97 l0_5 x8_4).f2] : List Int)) (inner := [.int .i64 ((rd_T97 l0_5 x8_4).f0), .int .i64 ((rd_T97 l0_5 x8_4).f1), .int .i64 ((rd_T97 l0_5 x8_4).f2)]) (ok := fun _ => True) (okp := fun _ => True) ?hr ?hp (fun _ hk => hk) trivial (Below.refl _ _) (Nat.le_refl _) (by simp) ?_; (case hd => rfl); (case hg => rfl); (case hr => first | (go_simp; done) | (go_simp; rfl)); (case hp => exact (Reps.one (show Kd.M (Kd.int .i64) _ _ _ ((rd_T97 l0_5 x8_4).f0) [.int .i64 ((rd_T97 l0_5 x8_4).f0)] from rfl) (Reps.one (show Kd.M (Kd.int .i64) _ _ _ ((rd_T97 l0_5 x8_4).f1) [.int .i64 ((rd_T97 l0_5 x8_4).f1)] from rfl) (Reps.one (show Kd.M (Kd.int .i64) _ _ _ ((rd_T97 l0_5 x8_4).f2) [.int .i64 ((rd_T97 l0_5 x8_4).f2)] from rfl) (Reps.none _ _)))))
              intro v581 w67 ho68 hb hg_ hnew_
              clear hg_; clear hnew_
              (first | rw [← Ny580.out] at ho68 | (simp only [Int.reduceToNat] at ho68; rw [← Ny580.out] at ho68))
              have n0_ := Aside0.mk (Kd.R_below (mR HO_4.out) hb)
              have n1_ := Aside0.mk (Kd.R_lower ho68 (below_size (mBs HB.out)))
              have n2_ := Aside0.mk (blk_below (g := gb537) (o := .cells #[.int .i64 a0_0, .int .i64 a0_1, .int .i64 a0_2, .slice A0_3 l0_3.length c0_3, .slice A0_4 l0_4.length c0_4, .slice (some ad577) l0_5.length c0_5, .slice A0_6 l0_6.length c0_6, .slice A0_7 l0_7.length c0_7] 67 (0, 0)) (mBK BK537.out) hb)
              have n3_ := Aside0.mk (below_step (mBs HB.out) hb)
              clear HO_4; clear BK537; clear HB
              have HO_4 := n0_
              have HO582 := n1_
              have BK537 := n2_
              have HB := n3_
              clear n0_; clear n1_; clear n2_; clear n3_; clear hb; clear ho68
              obtain ⟨Ao69, co69, eo69⟩ := Kd.R_slice HO_4.out
              (first | subst eo69 | (injection eo69 with f1_ f2_ f3_; have f4_ := f1_.symm; have f5_ := f3_.symm; clear f1_ f2_ f3_; subst f4_; subst f5_))
              obtain ⟨Ao70, co70, eo70⟩ := Kd.R_slice HO582.out
              (first | subst eo70 | (injection eo70 with f1_ f2_ f3_; have f4_ := f1_.symm; have f5_ := f3_.symm; clear f1_ f2_ f3_; subst f4_; subst f5_))
              refine hK.out _ _ ⟨(blk_cell BK537.out 0).trans rfl, (blk_cell BK537.out 1).trans rfl, (blk_cell BK537.out 2).trans rfl, (blk_cell BK537.out 3).trans rfl, (blk_cell BK537.out 4).trans rfl, (blk_cell BK537.out 5).trans rfl, (blk_cell BK537.out 6).trans rfl, (blk_cell BK537.out 7).trans rfl, ((HB.out.cell (World.block_lt_of_cell? w _ hw577_0)).trans hw577_0), ((HB.out.cell (World.block_lt_of_cell? w _ hw577_1)).trans hw577_1), ((HB.out.cell (World.block_lt_of_cell? w _ hw577_2)).trans hw577_2), ((HB.out.cell (World.block_lt_of_cell? w _ hw578_0)).trans hw578_0), ((HB.out.cell (World.block_lt_of_cell? w _ hw578_1)).trans hw578_1), ((HB.out.cell (World.block_lt_of_cell? w _ hw578_2)).trans hw578_2), ((HB.out.cell (World.block_lt_of_cell? w _ hw579_0)).trans hw579_0), ((HB.out.cell (World.block_lt_of_cell? w _ hw579_1)).trans hw579_1), ((HB.out.cell (World.block_lt_of_cell? w _ hw579_2)).trans hw579_2)⟩ (fun hHeld => ?_)
              clear hK; clear K
              refine norm_ (a' := ?_) ?_ ?_
              rotate_left
              ·show Act.put _ (some 154) _ = _
               simp only [Act.put, List.setIfInBounds_toArray, List.set_cons_zero, List.set_cons_succ, i64_w, i32_w]
               rfl
              refine one_ (i := 20) (N := some 155) #[true, true, true, true, true, true, true, true, true, true, true, true, true, true, true, true, true, true, true, true, true, false] rfl rfl (one_of HT_.out (by kernel_rfl)) (by decide) (fun K hK => ?_)
              refine goes_ Try.func51 (by kernel_rfl) rfl #[.slice Ao69 x4_4.length co69, .slice Ao70 y580.length co70] (by rfl) rfl rfl mt ?_
              with_reducible refine (prebendref13_nums.calls k4 (fun k_ => some k_ = (.slice Ao69 x4_4.length co69 : Value).ownBlock) (.slice Ao69 x4_4.length co69) x4_4 _ _ y580 t583 w _ ?side1 ?side2 ?side3 ?side4 A64.out).mono ?_
              (case side1 => repeat (first | (with_reducible first | exact HB.out | apply below_alloc | apply pw_below_drewN | apply below_drew1 | refine below_set ?_ GE537.out) | exact HB.out))
              (case side2 => exact Kd.R_tight rfl HO_4.out)
              (case side3 => exact Kd.C_kept_own ((Kd.R_apart' HO582.out (Kd.R_typed HO_4.out) (by decide))) (fun k_ hk_ hs_ => (hk_.2) hs_))
              (case side4 => exact (Kd.R_reads' HO582.out).2.1)
              rintro e w71 ⟨v584, rfl, ho0, hb, hkp⟩
              refine ⟨_, rfl, ?_⟩
              have n0_ := Aside0.mk (blk_kept (mBK BK537.out) hkp (fun hs_ => (fun e_ => (Kd.R_ne HO_4.out BK537.out (by decide)) e_) hs_))
              have n1_ := Aside0.mk (Kd.R_mono (ok' := fun k_ => True) (Kd.R_keptB ((Kd.R_apart' HO582.out (Kd.R_typed HO_4.out) (by decide))) hkp (fun k_ hk_ hs_ => (hk_.2) hs_)) (fun k_ hk_ => trivial))
              have n2_ := Aside0.mk (Kd.R_mono (ok' := fun k_ => True) ho0 (fun k_ hk_ => trivial))
              have n3_ := Aside0.mk (hb)
              clear BK537; clear HO582; clear HB; clear HO_4
              have BK537 := n0_
              have HO582 := n1_
              have HO585 := n2_
              have HB := n3_
              clear n0_; clear n1_; clear n2_; clear n3_
              (try clear hb); (try clear hkp); (try clear ho0)
              refine hK.out _ _ ⟨(blk_cell BK537.out 0).trans rfl, (blk_cell BK537.out 1).trans rfl, (blk_cell BK537.out 2).trans rfl, (blk_cell BK537.out 3).trans rfl, (blk_cell BK537.out 4).trans rfl, (blk_cell BK537.out 5).trans rfl, (blk_cell BK537.out 6).trans rfl, (blk_cell BK537.out 7).trans rfl, ((HB.out.cell (World.block_lt_of_cell? w _ hw577_0)).trans hw577_0), ((HB.out.cell (World.block_lt_of_cell? w _ hw577_1)).trans hw577_1), ((HB.out.cell (World.block_lt_of_cell? w _ hw577_2)).trans hw577_2), ((HB.out.cell (World.block_lt_of_cell? w _ hw578_0)).trans hw578_0), ((HB.out.cell (World.block_lt_of_cell? w _ hw578_1)).trans hw578_1), ((HB.out.cell (World.block_lt_of_cell? w _ hw578_2)).trans hw578_2), ((HB.out.cell (World.block_lt_of_cell? w _ hw579_0)).trans hw579_0), ((HB.out.cell (World.block_lt_of_cell? w _ hw579_1)).trans hw579_1), ((HB.out.cell (World.block_lt_of_cell? w _ hw579_2)).trans hw579_2)⟩ (fun hHeld => ?_)
              clear hK; clear K
              refine norm_ (a' := ?_) ?_ ?_
              rotate_left
              ·show Act.put _ (some 155) _ = _
               simp only [Act.put, List.setIfInBounds_toArray, List.set_cons_zero, List.set_cons_succ, i64_w, i32_w]
               rfl
              refine plan_ [(21, 4)] ?_
              refine planP_ (v := ?_) (a' := ?_) rfl rfl (any_of HT_.out (by kernel_rfl)) (fun _ _ _ h => h) (Or.inl ⟨by rfl, ?_⟩) ?_ ?_; rotate_left; (intro w'; go_simp; with_reducible rfl); rotate_left; (simp only [Act.put, List.setIfInBounds_toArray, List.set_cons_zero, List.set_cons_succ, i64_w, i32_w]; rfl)
              refine planEnd_ ?_
              refine done_ (done_of HT_.out (by kernel_rfl)) ?_
              try go_wp2
              go_roundg k4
              case measure => have := HJ1.out; have := HK2.out; have := HK3.out; have := HK4.out; omega
              case rel => exact ⟨(t583), (wrap64 (x8_4 + 1)), ez, H', ⟨by have := HJ1.out; have := HK2.out; have := HK3.out; have := HK4.out; omega⟩, ⟨mR HO585.out⟩, ⟨mBK BK537.out⟩, ⟨mBs HB.out⟩⟩
             ·rw [if_neg c63] at H
              exact absurd H (by simp)
            ·rw [if_neg c62] at H
             have c62b0 : decide (x8_4 < (l0_5.length : Int)) = false := decide_eq_false c62
             clear c62
             obtain ⟨y586, hy586⟩ : ∃ y_ : List Int, y_ = (([(l0_6.length : Int)] : List Int)) := ⟨_, rfl⟩
             replace H : ((prebendref13_nums.f k4 x4_4 y586).bind fun t589 => (prebendref13_Encode.l3 k4 t589 0 a0_0 a0_1 a0_2 l0_3 l0_4 l0_5 l0_6 l0_7)) = some (r1, r2) := mH hy586 H
             have Ny586 := Aside0.mk hy586
             clear hy586
             replace H := Option.bind_eq_some_iff.mp H
             obtain ⟨t589, A720, H⟩ := H
             replace H : (prebendref13_Encode.l3 k4 t589 0 a0_0 a0_1 a0_2 l0_3 l0_4 l0_5 l0_6 l0_7) = some (r1, r2) := H
             have A72 := Aside0.mk A720
             clear A720
             have H' := Aside0.mk H
             clear H
             have hcz73_0 : wr.cell? ⟨gb537, 0, none⟩ = some (.int .i64 a0_0) := (blk_cell BK537.out 0).trans rfl
             have hcz73_1 : wr.cell? ⟨gb537, 1, none⟩ = some (.int .i64 a0_1) := (blk_cell BK537.out 1).trans rfl
             have hcz73_2 : wr.cell? ⟨gb537, 2, none⟩ = some (.int .i64 a0_2) := (blk_cell BK537.out 2).trans rfl
             have hcz73_3 : wr.cell? ⟨gb537, 3, none⟩ = some (.slice A0_3 l0_3.length c0_3) := (blk_cell BK537.out 3).trans rfl
             have hcz73_4 : wr.cell? ⟨gb537, 4, none⟩ = some (.slice A0_4 l0_4.length c0_4) := (blk_cell BK537.out 4).trans rfl
             have hcz73_5 : wr.cell? ⟨gb537, 5, none⟩ = some (.slice A0_5 l0_5.length c0_5) := (blk_cell BK537.out 5).trans rfl
             have hcz73_6 : wr.cell? ⟨gb537, 6, none⟩ = some (.slice A0_6 l0_6.length c0_6) := (blk_cell BK537.out 6).trans rfl
             have hcz73_7 : wr.cell? ⟨gb537, 7, none⟩ = some (.slice A0_7 l0_7.length c0_7) := (blk_cell BK537.out 7).trans rfl
             have hfz73_0 := blk_frozen BK537.out 0
             have hfz73_1 := blk_frozen BK537.out 1
             have hfz73_2 := blk_frozen BK537.out 2
             have hfz73_3 := blk_frozen BK537.out 3
             have hfz73_4 := blk_frozen BK537.out 4
             have hfz73_5 := blk_frozen BK537.out 5
             have hfz73_6 := blk_frozen BK537.out 6
             have hfz73_7 := blk_frozen BK537.out 7
             go_wp2_with (first | ((with_reducible refine gate_dst (N := 160) rfl ?_); (try (refine gate_guard (by rfl) ?_; dsimp only)); refine Kd.R_lit (Kd.int .i64) _ 3 ?hg (N := 160) ?hd (xs := ([(l0_6.length : Int)] : List Int)) (inner := [.int .i64 (l0_6.length : Int)]) (ok := fun _ => True) (okp := fun _ => True) ?hr ?hp (fun _ hk => hk) trivial (Below.refl _ _) (Nat.le_refl _) (by simp) ?_; (case hd => rfl); (case hg => rfl); (case hr => first | (go_simp; done) | (go_simp; rfl)); (case hp => exact (Reps.one (show Kd.M (Kd.int .i64) _ _ _ (l0_6.length : Int) [.int .i64 (l0_6.length : Int)] from rfl) (Reps.none _ _))); intro v587 w74 ho75 hb hg_ hnew_; clear hg_ hnew_; (first | rw [← Ny586.out] at ho75 | (simp only [Int.reduceToNat] at ho75; rw [← Ny586.out] at ho75)); have n0_ := Aside0.mk (Kd.R_below (mR HO_4.out) hb); have n1_ := Aside0.mk (Kd.R_lower ho75 (below_size (mBs HB.out))); have n2_ := Aside0.mk (blk_below (g := gb537) (o := .cells #[.int .i64 a0_0, .int .i64 a0_1, .int .i64 a0_2, .slice A0_3 l0_3.length c0_3, .slice A0_4 l0_4.length c0_4, .slice A0_5 l0_5.length c0_5, .slice A0_6 l0_6.length c0_6, .slice A0_7 l0_7.length c0_7] 67 (0, 0)) (mBK BK537.out) hb); have n3_ := Aside0.mk (below_step (mBs HB.out) hb); clear HO_4; clear BK537; clear HB; have HO_4 := n0_; have HO588 := n1_; have BK537 := n2_; have HB := n3_; clear n0_ n1_ n2_ n3_; clear hb ho75; obtain ⟨Ao76, co76, eo76⟩ := Kd.R_slice HO_4.out; subst eo76; obtain ⟨Ao77, co77, eo77⟩ := Kd.R_slice HO588.out; subst eo77) | ((with_reducible refine gate_callee (f := 51) rfl ?_); refine goesL_ (some 161) rfl rfl Try.func51 (by kernel_rfl) rfl #[.slice Ao76 x4_4.length co76, .slice Ao77 y586.length co77] rfl mt ?_; (with_reducible refine (prebendref13_nums.calls k4 (fun k_ => some k_ = (.slice Ao76 x4_4.length co76 : Value).ownBlock) (.slice Ao76 x4_4.length co76) x4_4 _ _ y586 t589 w _ ?side1 ?side2 ?side3 ?side4 A72.out).mono ?_); (case side1 => repeat (first | (with_reducible first | exact HB.out | apply below_alloc | apply pw_below_drewN | apply below_drew1 | refine below_set ?_ GE537.out) | exact HB.out)); (case side2 => exact Kd.R_tight rfl HO_4.out); (case side3 => exact Kd.C_kept_own ((Kd.R_apart' HO588.out (Kd.R_typed HO_4.out) (by decide))) (fun k_ hk_ hs_ => (hk_.2) hs_)); (case side4 => exact (Kd.R_reads' HO588.out).2.1); rintro e w78 ⟨v590, rfl, ho0, hb, hkp⟩; refine ⟨_, rfl, ?_⟩; have n0_ := Aside0.mk (blk_kept (mBK BK537.out) hkp (fun hs_ => (fun e_ => (Kd.R_ne HO_4.out BK537.out (by decide)) e_) hs_)); have n1_ := Aside0.mk (Kd.R_mono (ok' := fun k_ => True) (Kd.R_keptB ((Kd.R_apart' HO588.out (Kd.R_typed HO_4.out) (by decide))) hkp (fun k_ hk_ hs_ => (hk_.2) hs_)) (fun k_ hk_ => trivial)); have n2_ := Aside0.mk (Kd.R_mono (ok' := fun k_ => True) ho0 (fun k_ hk_ => trivial)); have n3_ := Aside0.mk (hb); clear BK537; clear HO588; clear HB; clear HO_4; have BK537 := n0_; have HO588 := n1_; have HO591 := n2_; have HB := n3_; clear n0_ n1_ n2_ n3_; (try clear hb); (try clear hkp); (try clear ho0)))
             go_loopg [4, 9] k4 (fun kq v4 v9 w' => ∃ (x4_5 : List Int) (x9_5 : Int), v9 = .int .i64 x9_5 ∧ Aside0 (prebendref13_Encode.l3 kq x4_5 x9_5 a0_0 a0_1 a0_2 l0_3 l0_4 l0_5 l0_6 l0_7 = some (r1, r2)) ∧ Aside0 (kq ≤ k4) ∧ Aside0 (Kd.R (Kd.int .u8) 5 w' w.heap.size (fun _ => True) v4 x4_5) ∧ Aside0 (w'.heap[gb537]? = some (.cells #[.int .i64 a0_0, .int .i64 a0_1, .int .i64 a0_2, (.slice A0_3 l0_3.length c0_3), (.slice A0_4 l0_4.length c0_4), (.slice A0_5 l0_5.length c0_5), (.slice A0_6 l0_6.length c0_6), (.slice A0_7 l0_7.length c0_7)] 67 (0, 0))) ∧ Aside0 (Below w.heap.size w w'))
             case atStart => exact ⟨(t589), (0), ez, H', ⟨Nat.le_refl _⟩, ⟨mR HO591.out⟩, ⟨mBK BK537.out⟩, ⟨mBs HB.out⟩⟩
             case round =>
              clear H'
              (try clear c2); (try clear p2); (try clear c4); (try clear c5); (try clear p5); (try clear q5); (try clear hx5); (try clear c6); (try clear p6); (try clear c20); (try clear c20b0); (try clear c21); (try clear c21b0); (try clear c22); (try clear c22b0); (try clear c22b1); (try clear c43); (try clear c43b0); (try clear c44); (try clear c44b0); (try clear c48); (try clear c51); (try clear p54); (try clear q54); (try clear hx54); (try clear p55); (try clear q55); (try clear hx55); (try clear p56); (try clear q56); (try clear hx56); (try clear p57); (try clear q57); (try clear hx57); (try clear c62); (try clear c62b0); (try clear c63); (try clear c63b0); (try clear p64); (try clear hcz23_0); (try clear hcz23_1); (try clear hcz23_2); (try clear hcz23_3); (try clear hcz23_4); (try clear hcz23_5); (try clear hcz23_6); (try clear hcz23_7); (try clear hcz26_0); (try clear hcz26_1); (try clear hcz26_2); (try clear hcz26_3); (try clear hcz26_4); (try clear hcz26_5); (try clear hcz26_6); (try clear hcz26_7); (try clear hcz37_0); (try clear hcz37_1); (try clear hcz37_2); (try clear hcz37_3); (try clear hcz37_4); (try clear hcz37_5); (try clear hcz37_6); (try clear hcz37_7); (try clear hcz46_0); (try clear hcz46_1); (try clear hcz46_2); (try clear hcz46_3); (try clear hcz46_4); (try clear hcz46_5); (try clear hcz46_6); (try clear hcz46_7); (try clear hcz49_0); (try clear hcz49_1); (try clear hcz49_2); (try clear hcz49_3); (try clear hcz49_4); (try clear hcz49_5); (try clear hcz56_0); (try clear hcz56_1); (try clear hcz56_2); (try clear hcz56_3); (try clear hcz56_4); (try clear hcz56_5); (try clear hcz56_6); (try clear hcz56_7); (try clear hcz5_5); (try clear hcz5_6); (try clear hcz5_7); (try clear hcz65_0); (try clear hcz65_1); (try clear hcz65_2); (try clear hcz65_3); (try clear hcz65_4); (try clear hcz65_5); (try clear hcz65_6); (try clear hcz65_7); (try clear hcz73_0); (try clear hcz73_1); (try clear hcz73_2); (try clear hcz73_3); (try clear hcz73_4); (try clear hcz73_5); (try clear hcz73_6); (try clear hcz73_7); (try clear hcz7_0); (try clear hcz7_1); (try clear hcz7_2); (try clear hcz7_3); (try clear hcz7_4); (try clear hcz7_5); (try clear hcz7_6); (try clear hcz7_7); (try clear hcz9_0); (try clear hcz9_1); (try clear hcz9_2); (try clear hcz9_3); (try clear hcz9_4); (try clear hcz9_5); (try clear hcz9_6); (try clear hcz9_7); (try clear hfz11_0); (try clear hfz11_1); (try clear hfz11_2); (try clear hfz11_3); (try clear hfz11_4); (try clear hfz11_5); (try clear hfz11_6); (try clear hfz11_7); (try clear hfz12_0); (try clear hfz12_1); (try clear hfz12_2); (try clear hfz12_3); (try clear hfz12_4); (try clear hfz12_5); (try clear hfz12_6); (try clear hfz12_7); (try clear hfz15_0); (try clear hfz15_1); (try clear hfz15_2); (try clear hfz15_3); (try clear hfz15_4); (try clear hfz15_5); (try clear hfz15_6); (try clear hfz15_7); (try clear hfz23_0); (try clear hfz23_1); (try clear hfz23_2); (try clear hfz23_3); (try clear hfz23_4); (try clear hfz23_5); (try clear hfz23_6); (try clear hfz23_7); (try clear hfz26_0); (try clear hfz26_1); (try clear hfz26_2); (try clear hfz26_3); (try clear hfz26_4); (try clear hfz26_5); (try clear hfz26_6); (try clear hfz26_7); (try clear hfz37_0); (try clear hfz37_1); (try clear hfz37_2); (try clear hfz37_3); (try clear hfz37_4); (try clear hfz37_5); (try clear hfz37_6); (try clear hfz37_7); (try clear hfz46_0); (try clear hfz46_1); (try clear hfz46_2); (try clear hfz46_3); (try clear hfz46_4); (try clear hfz46_5); (try clear hfz46_6); (try clear hfz46_7); (try clear hfz49_0); (try clear hfz49_1); (try clear hfz49_2); (try clear hfz49_3); (try clear hfz49_4); (try clear hfz49_5); (try clear hfz56_0); (try clear hfz56_1); (try clear hfz56_2); (try clear hfz56_3); (try clear hfz56_4); (try clear hfz56_5); (try clear hfz56_6); (try clear hfz56_7); (try clear hfz5_0); (try clear hfz5_1); (try clear hfz5_2); (try clear hfz5_3); (try clear hfz5_4); (try clear hfz5_5); (try clear hfz5_6); (try clear hfz5_7); (try clear hfz65_0); (try clear hfz65_1); (try clear hfz65_2); (try clear hfz65_3); (try clear hfz65_4); (try clear hfz65_5); (try clear hfz65_6); (try clear hfz65_7); (try clear hfz73_0); (try clear hfz73_1); (try clear hfz73_2); (try clear hfz73_3); (try clear hfz73_4); (try clear hfz73_5); (try clear hfz73_6); (try clear hfz73_7); (try clear hfz7_0); (try clear hfz7_1); (try clear hfz7_2); (try clear hfz7_3); (try clear hfz7_4); (try clear hfz7_5); (try clear hfz7_6); (try clear hfz7_7); (try clear hfz9_0); (try clear hfz9_1); (try clear hfz9_2); (try clear hfz9_3); (try clear hfz9_4); (try clear hfz9_5); (try clear hfz9_6); (try clear hfz9_7); (try clear hx544_0); (try clear hx544_1); (try clear hx544_2); (try clear hx545_0); (try clear hx545_1); (try clear hx545_2); (try clear hx549_0); (try clear hx549_1); (try clear hx549_2); (try clear hx550_0); (try clear hx550_1); (try clear hx550_2); (try clear hx563_0); (try clear hx563_1); (try clear hx563_2); (try clear hx563_3); (try clear hx563_4); (try clear hx563_5); (try clear hx577_0); (try clear hx577_1); (try clear hx577_2); (try clear hx578_0); (try clear hx578_1); (try clear hx578_2); (try clear hx579_0); (try clear hx579_1); (try clear hx579_2); (try clear p2); (try clear p5); (try clear p54); (try clear p544); (try clear p545); (try clear p549); (try clear p55); (try clear p550); (try clear p56); (try clear p563); (try clear p577); (try clear p578); (try clear p579); (try clear p6); (try clear q5); (try clear q54); (try clear q544); (try clear q545); (try clear q549); (try clear q55); (try clear q550); (try clear q56); (try clear q563); (try clear q577); (try clear q578); (try clear q579)
              obtain ⟨x4_5, x9_5, rfl, HA, HK5, HO_4, BK537, HB⟩ := hrel
              cases gk with
              | zero => exact absurd HA.out (by simp [prebendref13_Encode.l3])
              | succ k5 =>
               have H := HA.out
               clear HA
               simp only [prebendref13_Encode.l3] at H
               by_cases c79 : x9_5 < (l0_6.length : Int)
               ·rw [if_pos c79] at H
                have c79b0 : decide (x9_5 < (l0_6.length : Int)) = true := decide_eq_true c79
                clear c79
                by_cases c80 : 0 ≤ x9_5
                ·rw [if_pos c80] at H
                 have c80b0 : decide (0 ≤ x9_5) = true := decide_eq_true c80
                 clear c80
                 by_cases c81 : (((rd_T100 l0_6 x9_5).f11).length : Int) > 16
                 ·rw [if_pos c81] at H
                  have c81b0 : decide (16 < (((rd_T100 l0_6 x9_5).f11).length : Int)) = true := decide_eq_true c81
                  have c81b1 : decide (16 < ((rd_T100 l0_6 x9_5).f11).length) = true := decide_eq_true (by omega)
                  clear c81
                  simp only [Option.some.injEq, Prod.mk.injEq] at H
                  obtain ⟨rfl, rfl⟩ := H
                  have hcz82_0 : wr.cell? ⟨gb537, 0, none⟩ = some (.int .i64 a0_0) := (blk_cell BK537.out 0).trans rfl
                  have hcz82_1 : wr.cell? ⟨gb537, 1, none⟩ = some (.int .i64 a0_1) := (blk_cell BK537.out 1).trans rfl
                  have hcz82_2 : wr.cell? ⟨gb537, 2, none⟩ = some (.int .i64 a0_2) := (blk_cell BK537.out 2).trans rfl
                  have hcz82_3 : wr.cell? ⟨gb537, 3, none⟩ = some (.slice A0_3 l0_3.length c0_3) := (blk_cell BK537.out 3).trans rfl
                  have hcz82_4 : wr.cell? ⟨gb537, 4, none⟩ = some (.slice A0_4 l0_4.length c0_4) := (blk_cell BK537.out 4).trans rfl
                  have hcz82_5 : wr.cell? ⟨gb537, 5, none⟩ = some (.slice A0_5 l0_5.length c0_5) := (blk_cell BK537.out 5).trans rfl
                  have hcz82_6 : wr.cell? ⟨gb537, 6, none⟩ = some (.slice A0_6 l0_6.length c0_6) := (blk_cell BK537.out 6).trans rfl
                  have hcz82_7 : wr.cell? ⟨gb537, 7, none⟩ = some (.slice A0_7 l0_7.length c0_7) := (blk_cell BK537.out 7).trans rfl
                  have hfz82_0 := blk_frozen BK537.out 0
                  have hfz82_1 := blk_frozen BK537.out 1
                  have hfz82_2 := blk_frozen BK537.out 2
                  have hfz82_3 := blk_frozen BK537.out 3
                  have hfz82_4 := blk_frozen BK537.out 4
                  have hfz82_5 := blk_frozen BK537.out 5
                  have hfz82_6 := blk_frozen BK537.out 6
                  have hfz82_7 := blk_frozen BK537.out 7
                  have p592 : 0 ≤ (x9_5 : Int) := oda
                  have q592 : x9_5 < (l0_6.length : Int) := oda
                  obtain ⟨ad592, A592_11, c592_11, e592, hx592_0, hx592_1, hx592_2, hx592_3, hx592_4, hx592_5, hx592_6, hx592_7, hx592_8, hx592_9, hx592_10, hx592_11, hl592_11, hi592_11⟩ := at_T100 HR0_6.out x9_5 p592 q592
                  cases e592
                  replace hx592_0 := (HB.out.cell (World.block_lt_of_cell? w _ hx592_0)).trans hx592_0
                  replace hx592_1 := (HB.out.cell (World.block_lt_of_cell? w _ hx592_1)).trans hx592_1
                  replace hx592_2 := (HB.out.cell (World.block_lt_of_cell? w _ hx592_2)).trans hx592_2
                  replace hx592_3 := (HB.out.cell (World.block_lt_of_cell? w _ hx592_3)).trans hx592_3
                  replace hx592_4 := (HB.out.cell (World.block_lt_of_cell? w _ hx592_4)).trans hx592_4
                  replace hx592_5 := (HB.out.cell (World.block_lt_of_cell? w _ hx592_5)).trans hx592_5
                  replace hx592_6 := (HB.out.cell (World.block_lt_of_cell? w _ hx592_6)).trans hx592_6
                  replace hx592_7 := (HB.out.cell (World.block_lt_of_cell? w _ hx592_7)).trans hx592_7
                  replace hx592_8 := (HB.out.cell (World.block_lt_of_cell? w _ hx592_8)).trans hx592_8
                  replace hx592_9 := (HB.out.cell (World.block_lt_of_cell? w _ hx592_9)).trans hx592_9
                  replace hx592_10 := (HB.out.cell (World.block_lt_of_cell? w _ hx592_10)).trans hx592_10
                  replace hx592_11 := (HB.out.cell (World.block_lt_of_cell? w _ hx592_11)).trans hx592_11
                  have HR592_11 := Aside0.mk hi592_11
                  have HC592_11 := Aside0.mk hl592_11
                  clear hi592_11; clear hl592_11
                  replace p592 := eq_true p592
                  replace q592 := eq_true q592
                  go_wp2_with (first | ((with_reducible refine gate_dst (N := 10) rfl ?_); (try (refine gate_guard (by rfl) ?_; dsimp only)); refine box_event ?hg (N := 10) ?hd (cs := #[.int .i64 0, .int .i64 0, .int .i64 0, .int .i64 0, .int .i64 0, .int .i64 0, .int .i64 0, .int .i64 0, .int .i64 0, .int .i64 0, .int .i64 0, .slice none 0 0]) (t := 100) ?hr ?_; (case hd => rfl); (case hg => rfl); (case hr => first | (go_simp; done) | (go_simp; rfl)); intro gb593 hg w83 hbox hb; have n0_ := Aside0.mk (Kd.R_below (mR HO_4.out) hb); have n1_ := Aside0.mk (blk_below (g := gb537) (o := .cells #[.int .i64 a0_0, .int .i64 a0_1, .int .i64 a0_2, .slice A0_3 l0_3.length c0_3, .slice A0_4 l0_4.length c0_4, .slice A0_5 l0_5.length c0_5, .slice (some ad592) l0_6.length c0_6, .slice A0_7 l0_7.length c0_7] 67 (0, 0)) (mBK BK537.out) hb); have n2_ := Aside0.mk (below_step (mBs HB.out) hb); have n3_ := Aside0.mk (hbox); have n4_ := Aside0.mk ((by rw [hg]; exact (below_size (mBs HB.out)) : w.heap.size ≤ gb593)); have n5_ := Aside0.mk ((by rw [hg]; exact (below_size (mBs HB.out)) : w.heap.size ≤ gb593)); have n6_ := Aside0.mk ((by rw [hg]; exact Nat.ne_of_lt (blk_lt (g := gb537) (o := .cells #[.int .i64 a0_0, .int .i64 a0_1, .int .i64 a0_2, .slice A0_3 l0_3.length c0_3, .slice A0_4 l0_4.length c0_4, .slice A0_5 l0_5.length c0_5, .slice (some ad592) l0_6.length c0_6, .slice A0_7 l0_7.length c0_7] 67 (0, 0)) (mBK BK537.out)) : gb537 ≠ gb593)); have n7_ := Aside0.mk ((by rw [hg]; exact Nat.ne_of_gt (blk_lt (g := gb537) (o := .cells #[.int .i64 a0_0, .int .i64 a0_1, .int .i64 a0_2, .slice A0_3 l0_3.length c0_3, .slice A0_4 l0_4.length c0_4, .slice A0_5 l0_5.length c0_5, .slice (some ad592) l0_6.length c0_6, .slice A0_7 l0_7.length c0_7] 67 (0, 0)) (mBK BK537.out)) : gb593 ≠ gb537)); clear HO_4; clear BK537; clear HB; have HO_4 := n0_; have BK537 := n1_; have HB := n2_; have BK593 := n3_; have GW593 := n4_; have GE593 := n5_; have NB537_593 := n6_; have NB593_537 := n7_; clear n0_ n1_ n2_ n3_ n4_ n5_ n6_ n7_; clear hb hbox hg; have hnb84 := NB593_537.out; have hnc84 := NB537_593.out; have hcz85_0 : w83.cell? ⟨gb593, 0, none⟩ = some (.int .i64 0) := (blk_cell BK593.out 0).trans rfl; have hcz85_1 : w83.cell? ⟨gb593, 1, none⟩ = some (.int .i64 0) := (blk_cell BK593.out 1).trans rfl; have hcz85_2 : w83.cell? ⟨gb593, 2, none⟩ = some (.int .i64 0) := (blk_cell BK593.out 2).trans rfl; have hcz85_3 : w83.cell? ⟨gb593, 3, none⟩ = some (.int .i64 0) := (blk_cell BK593.out 3).trans rfl; have hcz85_4 : w83.cell? ⟨gb593, 4, none⟩ = some (.int .i64 0) := (blk_cell BK593.out 4).trans rfl; have hcz85_5 : w83.cell? ⟨gb593, 5, none⟩ = some (.int .i64 0) := (blk_cell BK593.out 5).trans rfl; have hcz85_6 : w83.cell? ⟨gb593, 6, none⟩ = some (.int .i64 0) := (blk_cell BK593.out 6).trans rfl; have hcz85_7 : w83.cell? ⟨gb593, 7, none⟩ = some (.int .i64 0) := (blk_cell BK593.out 7).trans rfl; have hcz85_8 : w83.cell? ⟨gb593, 8, none⟩ = some (.int .i64 0) := (blk_cell BK593.out 8).trans rfl; have hcz85_9 : w83.cell? ⟨gb593, 9, none⟩ = some (.int .i64 0) := (blk_cell BK593.out 9).trans rfl; have hcz85_10 : w83.cell? ⟨gb593, 10, none⟩ = some (.int .i64 0) := (blk_cell BK593.out 10).trans rfl; have hcz85_11 : w83.cell? ⟨gb593, 11, none⟩ = some (.slice none 0 0) := (blk_cell BK593.out 11).trans rfl; have hfz85_0 := blk_frozen BK593.out 0; have hfz85_1 := blk_frozen BK593.out 1; have hfz85_2 := blk_frozen BK593.out 2; have hfz85_3 := blk_frozen BK593.out 3; have hfz85_4 := blk_frozen BK593.out 4; have hfz85_5 := blk_frozen BK593.out 5; have hfz85_6 := blk_frozen BK593.out 6; have hfz85_7 := blk_frozen BK593.out 7; have hfz85_8 := blk_frozen BK593.out 8; have hfz85_9 := blk_frozen BK593.out 9; have hfz85_10 := blk_frozen BK593.out 10; have hfz85_11 := blk_frozen BK593.out 11))
                  go_ret2
                  exact ⟨_, by first | rfl | (simp [errW_none, errW_some] <;> rfl) | (simp [*, errW_none, errW_some] <;> rfl), by first | exact Kd.R_nil _ _ _ _ _ | exact Kd.N_nil _ _ _ _ _ | exact Kd.V_nil _ _ _ _ _ | exact Kd.Q_nil _ _ _ _ _ | exact Kd.S_nil _ _ _ _ _, by repeat (first | (with_reducible first | exact HB.out | apply below_alloc | apply pw_below_drewN | apply below_drew1 | refine below_set ?_ GE537.out | refine below_set ?_ GE593.out) | exact HB.out)⟩
                 ·rw [if_neg c81] at H
                  have c81b0 : decide (16 < (((rd_T100 l0_6 x9_5).f11).length : Int)) = false := decide_eq_false c81
                  have c81b1 : decide (16 < ((rd_T100 l0_6 x9_5).f11).length) = false := decide_eq_false (by omega)
                  clear c81
                  obtain ⟨y594, hy594⟩ : ∃ y_ : List Int, y_ = (([(rd_T100 l0_6 x9_5).f0, (rd_T100 l0_6 x9_5).f1, (rd_T100 l0_6 x9_5).f2, (rd_T100 l0_6 x9_5).f3, (rd_T100 l0_6 x9_5).f4, (rd_T100 l0_6 x9_5).f5, (rd_T100 l0_6 x9_5).f6, (rd_T100 l0_6 x9_5).f7, (rd_T100 l0_6 x9_5).f8, (rd_T100 l0_6 x9_5).f9, (rd_T100 l0_6 x9_5).f10, (((rd_T100 l0_6 x9_5).f11).length : Int)] : List Int)) := ⟨_, rfl⟩
                  replace H : ((prebendref13_nums.f k5 x4_5 y594).bind fun t597 => (prebendref13_Encode.l4 k5 t597 x9_5 0 a0_0 a0_1 a0_2 l0_3 l0_4 l0_5 l0_6 l0_7 ((rd_T100 l0_6 x9_5).f0) ((rd_T100 l0_6 x9_5).f1) ((rd_T100 l0_6 x9_5).f2) ((rd_T100 l0_6 x9_5).f3) ((rd_T100 l0_6 x9_5).f4) ((rd_T100 l0_6 x9_5).f5) ((rd_T100 l0_6 x9_5).f6) ((rd_T100 l0_6 x9_5).f7) ((rd_T100 l0_6 x9_5).f8) ((rd_T100 l0_6 x9_5).f9) ((rd_T100 l0_6 x9_5).f10) ((rd_T100 l0_6 x9_5).f11))) = some (r1, r2) := mH hy594 H
                  have Ny594 := Aside0.mk hy594
                  clear hy594
                  replace H := Option.bind_eq_some_iff.mp H
                  obtain ⟨t597, A860, H⟩ := H
                  replace H : (prebendref13_Encode.l4 k5 t597 x9_5 0 a0_0 a0_1 a0_2 l0_3 l0_4 l0_5 l0_6 l0_7 ((rd_T100 l0_6 x9_5).f0) ((rd_T100 l0_6 x9_5).f1) ((rd_T100 l0_6 x9_5).f2) ((rd_T100 l0_6 x9_5).f3) ((rd_T100 l0_6 x9_5).f4) ((rd_T100 l0_6 x9_5).f5) ((rd_T100 l0_6 x9_5).f6) ((rd_T100 l0_6 x9_5).f7) ((rd_T100 l0_6 x9_5).f8) ((rd_T100 l0_6 x9_5).f9) ((rd_T100 l0_6 x9_5).f10) ((rd_T100 l0_6 x9_5).f11)) = some (r1, r2) := H
                  have A86 := Aside0.mk A860
                  clear A860
                  have H' := Aside0.mk H
                  clear H
                  have hcz87_0 : wr.cell? ⟨gb537, 0, none⟩ = some (.int .i64 a0_0) := (blk_cell BK537.out 0).trans rfl
                  have hcz87_1 : wr.cell? ⟨gb537, 1, none⟩ = some (.int .i64 a0_1) := (blk_cell BK537.out 1).trans rfl
                  have hcz87_2 : wr.cell? ⟨gb537, 2, none⟩ = some (.int .i64 a0_2) := (blk_cell BK537.out 2).trans rfl
                  have hcz87_3 : wr.cell? ⟨gb537, 3, none⟩ = some (.slice A0_3 l0_3.length c0_3) := (blk_cell BK537.out 3).trans rfl
                  have hcz87_4 : wr.cell? ⟨gb537, 4, none⟩ = some (.slice A0_4 l0_4.length c0_4) := (blk_cell BK537.out 4).trans rfl
                  have hcz87_5 : wr.cell? ⟨gb537, 5, none⟩ = some (.slice A0_5 l0_5.length c0_5) := (blk_cell BK537.out 5).trans rfl
                  have hcz87_6 : wr.cell? ⟨gb537, 6, none⟩ = some (.slice A0_6 l0_6.length c0_6) := (blk_cell BK537.out 6).trans rfl
                  have hcz87_7 : wr.cell? ⟨gb537, 7, none⟩ = some (.slice A0_7 l0_7.length c0_7) := (blk_cell BK537.out 7).trans rfl
                  have hfz87_0 := blk_frozen BK537.out 0
                  have hfz87_1 := blk_frozen BK537.out 1
                  have hfz87_2 := blk_frozen BK537.out 2
                  have hfz87_3 := blk_frozen BK537.out 3
                  have hfz87_4 := blk_frozen BK537.out 4
                  have hfz87_5 := blk_frozen BK537.out 5
                  have hfz87_6 := blk_frozen BK537.out 6
                  have hfz87_7 := blk_frozen BK537.out 7
                  have p592 : 0 ≤ (x9_5 : Int) := oda
                  have q592 : x9_5 < (l0_6.length : Int) := oda
                  obtain ⟨ad592, A592_11, c592_11, e592, hx592_0, hx592_1, hx592_2, hx592_3, hx592_4, hx592_5, hx592_6, hx592_7, hx592_8, hx592_9, hx592_10, hx592_11, hl592_11, hi592_11⟩ := at_T100 HR0_6.out x9_5 p592 q592
                  cases e592
                  replace hx592_0 := (HB.out.cell (World.block_lt_of_cell? w _ hx592_0)).trans hx592_0
                  replace hx592_1 := (HB.out.cell (World.block_lt_of_cell? w _ hx592_1)).trans hx592_1
                  replace hx592_2 := (HB.out.cell (World.block_lt_of_cell? w _ hx592_2)).trans hx592_2
                  replace hx592_3 := (HB.out.cell (World.block_lt_of_cell? w _ hx592_3)).trans hx592_3
                  replace hx592_4 := (HB.out.cell (World.block_lt_of_cell? w _ hx592_4)).trans hx592_4
                  replace hx592_5 := (HB.out.cell (World.block_lt_of_cell? w _ hx592_5)).trans hx592_5
                  replace hx592_6 := (HB.out.cell (World.block_lt_of_cell? w _ hx592_6)).trans hx592_6
                  replace hx592_7 := (HB.out.cell (World.block_lt_of_cell? w _ hx592_7)).trans hx592_7
                  replace hx592_8 := (HB.out.cell (World.block_lt_of_cell? w _ hx592_8)).trans hx592_8
                  replace hx592_9 := (HB.out.cell (World.block_lt_of_cell? w _ hx592_9)).trans hx592_9
                  replace hx592_10 := (HB.out.cell (World.block_lt_of_cell? w _ hx592_10)).trans hx592_10
                  replace hx592_11 := (HB.out.cell (World.block_lt_of_cell? w _ hx592_11)).trans hx592_11
                  have HR592_11 := Aside0.mk hi592_11
                  have HC592_11 := Aside0.mk hl592_11
                  clear hi592_11; clear hl592_11
                  replace p592 := eq_true p592
                  replace q592 := eq_true q592
                  go_wp2_with (first | ((with_reducible refine gate_dst (N := 10) rfl ?_); (try (refine gate_guard (by rfl) ?_; dsimp only)); refine box_event ?hg (N := 10) ?hd (cs := #[.int .i64 0, .int .i64 0, .int .i64 0, .int .i64 0, .int .i64 0, .int .i64 0, .int .i64 0, .int .i64 0, .int .i64 0, .int .i64 0, .int .i64 0, .slice none 0 0]) (t := 100) ?hr ?_; (case hd => rfl); (case hg => rfl); (case hr => first | (go_simp; done) | (go_simp; rfl)); intro gb593 hg w88 hbox hb; have n0_ := Aside0.mk (Kd.R_below (mR HO_4.out) hb); have n1_ := Aside0.mk (blk_below (g := gb537) (o := .cells #[.int .i64 a0_0, .int .i64 a0_1, .int .i64 a0_2, .slice A0_3 l0_3.length c0_3, .slice A0_4 l0_4.length c0_4, .slice A0_5 l0_5.length c0_5, .slice (some ad592) l0_6.length c0_6, .slice A0_7 l0_7.length c0_7] 67 (0, 0)) (mBK BK537.out) hb); have n2_ := Aside0.mk (below_step (mBs HB.out) hb); have n3_ := Aside0.mk (hbox); have n4_ := Aside0.mk ((by rw [hg]; exact (below_size (mBs HB.out)) : w.heap.size ≤ gb593)); have n5_ := Aside0.mk ((by rw [hg]; exact (below_size (mBs HB.out)) : w.heap.size ≤ gb593)); have n6_ := Aside0.mk ((by rw [hg]; exact Nat.ne_of_lt (blk_lt (g := gb537) (o := .cells #[.int .i64 a0_0, .int .i64 a0_1, .int .i64 a0_2, .slice A0_3 l0_3.length c0_3, .slice A0_4 l0_4.length c0_4, .slice A0_5 l0_5.length c0_5, .slice (some ad592) l0_6.length c0_6, .slice A0_7 l0_7.length c0_7] 67 (0, 0)) (mBK BK537.out)) : gb537 ≠ gb593)); have n7_ := Aside0.mk ((by rw [hg]; exact Nat.ne_of_gt (blk_lt (g := gb537) (o := .cells #[.int .i64 a0_0, .int .i64 a0_1, .int .i64 a0_2, .slice A0_3 l0_3.length c0_3, .slice A0_4 l0_4.length c0_4, .slice A0_5 l0_5.length c0_5, .slice (some ad592) l0_6.length c0_6, .slice A0_7 l0_7.length c0_7] 67 (0, 0)) (mBK BK537.out)) : gb593 ≠ gb537)); clear HO_4; clear BK537; clear HB; have HO_4 := n0_; have BK537 := n1_; have HB := n2_; have BK593 := n3_; have GW593 := n4_; have GE593 := n5_; have NB537_593 := n6_; have NB593_537 := n7_; clear n0_ n1_ n2_ n3_ n4_ n5_ n6_ n7_; clear hb hbox hg; have hnb89 := NB593_537.out; have hnc89 := NB537_593.out; have hcz90_0 : w88.cell? ⟨gb593, 0, none⟩ = some (.int .i64 0) := (blk_cell BK593.out 0).trans rfl; have hcz90_1 : w88.cell? ⟨gb593, 1, none⟩ = some (.int .i64 0) := (blk_cell BK593.out 1).trans rfl; have hcz90_2 : w88.cell? ⟨gb593, 2, none⟩ = some (.int .i64 0) := (blk_cell BK593.out 2).trans rfl; have hcz90_3 : w88.cell? ⟨gb593, 3, none⟩ = some (.int .i64 0) := (blk_cell BK593.out 3).trans rfl; have hcz90_4 : w88.cell? ⟨gb593, 4, none⟩ = some (.int .i64 0) := (blk_cell BK593.out 4).trans rfl; have hcz90_5 : w88.cell? ⟨gb593, 5, none⟩ = some (.int .i64 0) := (blk_cell BK593.out 5).trans rfl; have hcz90_6 : w88.cell? ⟨gb593, 6, none⟩ = some (.int .i64 0) := (blk_cell BK593.out 6).trans rfl; have hcz90_7 : w88.cell? ⟨gb593, 7, none⟩ = some (.int .i64 0) := (blk_cell BK593.out 7).trans rfl; have hcz90_8 : w88.cell? ⟨gb593, 8, none⟩ = some (.int .i64 0) := (blk_cell BK593.out 8).trans rfl; have hcz90_9 : w88.cell? ⟨gb593, 9, none⟩ = some (.int .i64 0) := (blk_cell BK593.out 9).trans rfl; have hcz90_10 : w88.cell? ⟨gb593, 10, none⟩ = some (.int .i64 0) := (blk_cell BK593.out 10).trans rfl; have hcz90_11 : w88.cell? ⟨gb593, 11, none⟩ = some (.slice none 0 0) := (blk_cell BK593.out 11).trans rfl; have hfz90_0 := blk_frozen BK593.out 0; have hfz90_1 := blk_frozen BK593.out 1; have hfz90_2 := blk_frozen BK593.out 2; have hfz90_3 := blk_frozen BK593.out 3; have hfz90_4 := blk_frozen BK593.out 4; have hfz90_5 := blk_frozen BK593.out 5; have hfz90_6 := blk_frozen BK593.out 6; have hfz90_7 := blk_frozen BK593.out 7; have hfz90_8 := blk_frozen BK593.out 8; have hfz90_9 := blk_frozen BK593.out 9; have hfz90_10 := blk_frozen BK593.out 10; have hfz90_11 := blk_frozen BK593.out 11) | ((with_reducible refine gate_dst (N := 204) rfl ?_); (try (refine gate_guard (by rfl) ?_; dsimp only)); refine Kd.R_lit (Kd.int .i64) _ 3 ?hg (N := 204) ?hd (xs := ([(rd_T100 l0_6 x9_5).f0, (rd_T100 l0_6 x9_5).f1, (rd_T100 l0_6 x9_5).f2, (rd_T100 l0_6 x9_5).f3, (rd_T100 l0_6 x9_5).f4, (rd_T100 l0_6 x9_5).f5, (rd_T100 l0_6 x9_5).f6, (rd_T100 l0_6 x9_5).f7, (rd_T100 l0_6 x9_5).f8, (rd_T100 l0_6 x9_5).f9, (rd_T100 l0_6 x9_5).f10, (((rd_T100 l0_6 x9_5).f11).length : Int)] : List Int)) (inner := [.int .i64 ((rd_T100 l0_6 x9_5).f0), .int .i64 ((rd_T100 l0_6 x9_5).f1), .int .i64 ((rd_T100 l0_6 x9_5).f2), .int .i64 ((rd_T100 l0_6 x9_5).f3), .int .i64 ((rd_T100 l0_6 x9_5).f4), .int .i64 ((rd_T100 l0_6 x9_5).f5), .int .i64 ((rd_T100 l0_6 x9_5).f6), .int .i64 ((rd_T100 l0_6 x9_5).f7), .int .i64 ((rd_T100 l0_6 x9_5).f8), .int .i64 ((rd_T100 l0_6 x9_5).f9), .int .i64 ((rd_T100 l0_6 x9_5).f10), .int .i64 (((rd_T100 l0_6 x9_5).f11).length : Int)]) (ok := fun _ => True) (okp := fun _ => True) ?hr ?hp (fun _ hk => hk) trivial (Below.refl _ _) (Nat.le_refl _) (by simp) ?_; (case hd => rfl); (case hg => rfl); (case hr => first | (go_simp; done) | (go_simp; rfl)); (case hp => exact (Reps.one (show Kd.M (Kd.int .i64) _ _ _ ((rd_T100 l0_6 x9_5).f0) [.int .i64 ((rd_T100 l0_6 x9_5).f0)] from rfl) (Reps.one (show Kd.M (Kd.int .i64) _ _ _ ((rd_T100 l0_6 x9_5).f1) [.int .i64 ((rd_T100 l0_6 x9_5).f1)] from rfl) (Reps.one (show Kd.M (Kd.int .i64) _ _ _ ((rd_T100 l0_6 x9_5).f2) [.int .i64 ((rd_T100 l0_6 x9_5).f2)] from rfl) (Reps.one (show Kd.M (Kd.int .i64) _ _ _ ((rd_T100 l0_6 x9_5).f3) [.int .i64 ((rd_T100 l0_6 x9_5).f3)] from rfl) (Reps.one (show Kd.M (Kd.int .i64) _ _ _ ((rd_T100 l0_6 x9_5).f4) [.int .i64 ((rd_T100 l0_6 x9_5).f4)] from rfl) (Reps.one (show Kd.M (Kd.int .i64) _ _ _ ((rd_T100 l0_6 x9_5).f5) [.int .i64 ((rd_T100 l0_6 x9_5).f5)] from rfl) (Reps.one (show Kd.M (Kd.int .i64) _ _ _ ((rd_T100 l0_6 x9_5).f6) [.int .i64 ((rd_T100 l0_6 x9_5).f6)] from rfl) (Reps.one (show Kd.M (Kd.int .i64) _ _ _ ((rd_T100 l0_6 x9_5).f7) [.int .i64 ((rd_T100 l0_6 x9_5).f7)] from rfl) (Reps.one (show Kd.M (Kd.int .i64) _ _ _ ((rd_T100 l0_6 x9_5).f8) [.int .i64 ((rd_T100 l0_6 x9_5).f8)] from rfl) (Reps.one (show Kd.M (Kd.int .i64) _ _ _ ((rd_T100 l0_6 x9_5).f9) [.int .i64 ((rd_T100 l0_6 x9_5).f9)] from rfl) (Reps.one (show Kd.M (Kd.int .i64) _ _ _ ((rd_T100 l0_6 x9_5).f10) [.int .i64 ((rd_T100 l0_6 x9_5).f10)] from rfl) (Reps.one (show Kd.M (Kd.int .i64) _ _ _ (((rd_T100 l0_6 x9_5).f11).length : Int) [.int .i64 (((rd_T100 l0_6 x9_5).f11).length : Int)] from rfl) (Reps.none _ _)))))))))))))); intro v595 w91 ho92 hb hg_ hnew_; clear hg_ hnew_; (first | rw [← Ny594.out] at ho92 | (simp only [Int.reduceToNat] at ho92; rw [← Ny594.out] at ho92)); have n0_ := Aside0.mk (Kd.R_below (by (with_reducible repeat (first | apply Kd.R_alloc | apply Kd.R_drewN | apply Kd.R_drew)); exact (Kd.R_mono (Kd.R_fa gb593 11 (Kd.R_fa gb593 10 (Kd.R_fa gb593 9 (Kd.R_fa gb593 8 (Kd.R_fa gb593 7 (Kd.R_fa gb593 6 (Kd.R_fa gb593 5 (Kd.R_fa gb593 4 (Kd.R_fa gb593 3 (Kd.R_fa gb593 2 (Kd.R_fa gb593 1 (Kd.R_fa gb593 0 (Kd.R_types HO_4.out BK593.out (by decide)) (.int .i64 ((rd_T100 l0_6 x9_5).f0))) (.int .i64 ((rd_T100 l0_6 x9_5).f1))) (.int .i64 ((rd_T100 l0_6 x9_5).f2))) (.int .i64 ((rd_T100 l0_6 x9_5).f3))) (.int .i64 ((rd_T100 l0_6 x9_5).f4))) (.int .i64 ((rd_T100 l0_6 x9_5).f5))) (.int .i64 ((rd_T100 l0_6 x9_5).f6))) (.int .i64 ((rd_T100 l0_6 x9_5).f7))) (.int .i64 ((rd_T100 l0_6 x9_5).f8))) (.int .i64 ((rd_T100 l0_6 x9_5).f9))) (.int .i64 ((rd_T100 l0_6 x9_5).f10))) (.slice A592_11 ((rd_T100 l0_6 x9_5).f11).length c592_11)) (fun _ h_ => h_.1))) hb); have n1_ := Aside0.mk (Kd.R_lower ho92 (below_size (mBs HB.out))); have n2_ := Aside0.mk (blk_below (g := gb537) (o := .cells #[.int .i64 a0_0, .int .i64 a0_1, .int .i64 a0_2, .slice A0_3 l0_3.length c0_3, .slice A0_4 l0_4.length c0_4, .slice A0_5 l0_5.length c0_5, .slice (some ad592) l0_6.length c0_6, .slice A0_7 l0_7.length c0_7] 67 (0, 0)) (by (with_reducible repeat first | apply blk_drewN | apply blk_drew | apply blk_alloc); refine blk_far ?_ NB537_593.out _; (with_reducible repeat first | apply blk_drewN | apply blk_drew | apply blk_alloc); refine blk_far ?_ NB537_593.out _; (with_reducible repeat first | apply blk_drewN | apply blk_drew | apply blk_alloc); refine blk_far ?_ NB537_593.out _; (with_reducible repeat first | apply blk_drewN | apply blk_drew | apply blk_alloc); refine blk_far ?_ NB537_593.out _; (with_reducible repeat first | apply blk_drewN | apply blk_drew | apply blk_alloc); refine blk_far ?_ NB537_593.out _; (with_reducible repeat first | apply blk_drewN | apply blk_drew | apply blk_alloc); refine blk_far ?_ NB537_593.out _; (with_reducible repeat first | apply blk_drewN | apply blk_drew | apply blk_alloc); refine blk_far ?_ NB537_593.out _; (with_reducible repeat first | apply blk_drewN | apply blk_drew | apply blk_alloc); refine blk_far ?_ NB537_593.out _; (with_reducible repeat first | apply blk_drewN | apply blk_drew | apply blk_alloc); refine blk_far ?_ NB537_593.out _; (with_reducible repeat first | apply blk_drewN | apply blk_drew | apply blk_alloc); refine blk_far ?_ NB537_593.out _; (with_reducible repeat first | apply blk_drewN | apply blk_drew | apply blk_alloc); refine blk_far ?_ NB537_593.out _; (with_reducible repeat first | apply blk_drewN | apply blk_drew | apply blk_alloc); refine blk_far ?_ NB537_593.out _; (with_reducible repeat first | apply blk_drewN | apply blk_drew | apply blk_alloc); exact BK537.out) hb); have n3_ := Aside0.mk (blk_below (g := gb593) (o := .cells #[.int .i64 ((rd_T100 l0_6 x9_5).f0), .int .i64 ((rd_T100 l0_6 x9_5).f1), .int .i64 ((rd_T100 l0_6 x9_5).f2), .int .i64 ((rd_T100 l0_6 x9_5).f3), .int .i64 ((rd_T100 l0_6 x9_5).f4), .int .i64 ((rd_T100 l0_6 x9_5).f5), .int .i64 ((rd_T100 l0_6 x9_5).f6), .int .i64 ((rd_T100 l0_6 x9_5).f7), .int .i64 ((rd_T100 l0_6 x9_5).f8), .int .i64 ((rd_T100 l0_6 x9_5).f9), .int .i64 ((rd_T100 l0_6 x9_5).f10), .slice A592_11 ((rd_T100 l0_6 x9_5).f11).length c592_11] 100 (0, 0)) (by (with_reducible repeat first | apply blk_drewN | apply blk_drew | apply blk_alloc); refine blk_put (cs := #[.int .i64 ((rd_T100 l0_6 x9_5).f0), .int .i64 ((rd_T100 l0_6 x9_5).f1), .int .i64 ((rd_T100 l0_6 x9_5).f2), .int .i64 ((rd_T100 l0_6 x9_5).f3), .int .i64 ((rd_T100 l0_6 x9_5).f4), .int .i64 ((rd_T100 l0_6 x9_5).f5), .int .i64 ((rd_T100 l0_6 x9_5).f6), .int .i64 ((rd_T100 l0_6 x9_5).f7), .int .i64 ((rd_T100 l0_6 x9_5).f8), .int .i64 ((rd_T100 l0_6 x9_5).f9), .int .i64 ((rd_T100 l0_6 x9_5).f10), .slice none 0 0]) ?_ 11 _ rfl; (with_reducible repeat first | apply blk_drewN | apply blk_drew | apply blk_alloc); refine blk_put (cs := #[.int .i64 ((rd_T100 l0_6 x9_5).f0), .int .i64 ((rd_T100 l0_6 x9_5).f1), .int .i64 ((rd_T100 l0_6 x9_5).f2), .int .i64 ((rd_T100 l0_6 x9_5).f3), .int .i64 ((rd_T100 l0_6 x9_5).f4), .int .i64 ((rd_T100 l0_6 x9_5).f5), .int .i64 ((rd_T100 l0_6 x9_5).f6), .int .i64 ((rd_T100 l0_6 x9_5).f7), .int .i64 ((rd_T100 l0_6 x9_5).f8), .int .i64 ((rd_T100 l0_6 x9_5).f9), .int .i64 0, .slice none 0 0]) ?_ 10 _ rfl; (with_reducible repeat first | apply blk_drewN | apply blk_drew | apply blk_alloc); refine blk_put (cs := #[.int .i64 ((rd_T100 l0_6 x9_5).f0), .int .i64 ((rd_T100 l0_6 x9_5).f1), .int .i64 ((rd_T100 l0_6 x9_5).f2), .int .i64 ((rd_T100 l0_6 x9_5).f3), .int .i64 ((rd_T100 l0_6 x9_5).f4), .int .i64 ((rd_T100 l0_6 x9_5).f5), .int .i64 ((rd_T100 l0_6 x9_5).f6), .int .i64 ((rd_T100 l0_6 x9_5).f7), .int .i64 ((rd_T100 l0_6 x9_5).f8), .int .i64 0, .int .i64 0, .slice none 0 0]) ?_ 9 _ rfl; (with_reducible repeat first | apply blk_drewN | apply blk_drew | apply blk_alloc); refine blk_put (cs := #[.int .i64 ((rd_T100 l0_6 x9_5).f0), .int .i64 ((rd_T100 l0_6 x9_5).f1), .int .i64 ((rd_T100 l0_6 x9_5).f2), .int .i64 ((rd_T100 l0_6 x9_5).f3), .int .i64 ((rd_T100 l0_6 x9_5).f4), .int .i64 ((rd_T100 l0_6 x9_5).f5), .int .i64 ((rd_T100 l0_6 x9_5).f6), .int .i64 ((rd_T100 l0_6 x9_5).f7), .int .i64 0, .int .i64 0, .int .i64 0, .slice none 0 0]) ?_ 8 _ rfl; (with_reducible repeat first | apply blk_drewN | apply blk_drew | apply blk_alloc); refine blk_put (cs := #[.int .i64 ((rd_T100 l0_6 x9_5).f0), .int .i64 ((rd_T100 l0_6 x9_5).f1), .int .i64 ((rd_T100 l0_6 x9_5).f2), .int .i64 ((rd_T100 l0_6 x9_5).f3), .int .i64 ((rd_T100 l0_6 x9_5).f4), .int .i64 ((rd_T100 l0_6 x9_5).f5), .int .i64 ((rd_T100 l0_6 x9_5).f6), .int .i64 0, .int .i64 0, .int .i64 0, .int .i64 0, .slice none 0 0]) ?_ 7 _ rfl; (with_reducible repeat first | apply blk_drewN | apply blk_drew | apply blk_alloc); refine blk_put (cs := #[.int .i64 ((rd_T100 l0_6 x9_5).f0), .int .i64 ((rd_T100 l0_6 x9_5).f1), .int .i64 ((rd_T100 l0_6 x9_5).f2), .int .i64 ((rd_T100 l0_6 x9_5).f3), .int .i64 ((rd_T100 l0_6 x9_5).f4), .int .i64 ((rd_T100 l0_6 x9_5).f5), .int .i64 0, .int .i64 0, .int .i64 0, .int .i64 0, .int .i64 0, .slice none 0 0]) ?_ 6 _ rfl; (with_reducible repeat first | apply blk_drewN | apply blk_drew | apply blk_alloc); refine blk_put (cs := #[.int .i64 ((rd_T100 l0_6 x9_5).f0), .int .i64 ((rd_T100 l0_6 x9_5).f1), .int .i64 ((rd_T100 l0_6 x9_5).f2), .int .i64 ((rd_T100 l0_6 x9_5).f3), .int .i64 ((rd_T100 l0_6 x9_5).f4), .int .i64 0, .int .i64 0, .int .i64 0, .int .i64 0, .int .i64 0, .int .i64 0, .slice none 0 0]) ?_ 5 _ rfl; (with_reducible repeat first | apply blk_drewN | apply blk_drew | apply blk_alloc); refine blk_put (cs := #[.int .i64 ((rd_T100 l0_6 x9_5).f0), .int .i64 ((rd_T100 l0_6 x9_5).f1), .int .i64 ((rd_T100 l0_6 x9_5).f2), .int .i64 ((rd_T100 l0_6 x9_5).f3), .int .i64 0, .int .i64 0, .int .i64 0, .int .i64 0, .int .i64 0, .int .i64 0, .int .i64 0, .slice none 0 0]) ?_ 4 _ rfl; (with_reducible repeat first | apply blk_drewN | apply blk_drew | apply blk_alloc); refine blk_put (cs := #[.int .i64 ((rd_T100 l0_6 x9_5).f0), .int .i64 ((rd_T100 l0_6 x9_5).f1), .int .i64 ((rd_T100 l0_6 x9_5).f2), .int .i64 0, .int .i64 0, .int .i64 0, .int .i64 0, .int .i64 0, .int .i64 0, .int .i64 0, .int .i64 0, .slice none 0 0]) ?_ 3 _ rfl; (with_reducible repeat first | apply blk_drewN | apply blk_drew | apply blk_alloc); refine blk_put (cs := #[.int .i64 ((rd_T100 l0_6 x9_5).f0), .int .i64 ((rd_T100 l0_6 x9_5).f1), .int .i64 0, .int .i64 0, .int .i64 0, .int .i64 0, .int .i64 0, .int .i64 0, .int .i64 0, .int .i64 0, .int .i64 0, .slice none 0 0]) ?_ 2 _ rfl; (with_reducible repeat first | apply blk_drewN | apply blk_drew | apply blk_alloc); refine blk_put (cs := #[.int .i64 ((rd_T100 l0_6 x9_5).f0), .int .i64 0, .int .i64 0, .int .i64 0, .int .i64 0, .int .i64 0, .int .i64 0, .int .i64 0, .int .i64 0, .int .i64 0, .int .i64 0, .slice none 0 0]) ?_ 1 _ rfl; (with_reducible repeat first | apply blk_drewN | apply blk_drew | apply blk_alloc); refine blk_put (cs := #[.int .i64 0, .int .i64 0, .int .i64 0, .int .i64 0, .int .i64 0, .int .i64 0, .int .i64 0, .int .i64 0, .int .i64 0, .int .i64 0, .int .i64 0, .slice none 0 0]) ?_ 0 _ rfl; (with_reducible repeat first | apply blk_drewN | apply blk_drew | apply blk_alloc); exact BK593.out) hb); have n4_ := Aside0.mk (below_step (mBs HB.out) hb); clear HO_4; clear BK537; clear BK593; clear HB; have HO_4 := n0_; have HO596 := n1_; have BK537 := n2_; have BK593 := n3_; have HB := n4_; clear n0_ n1_ n2_ n3_ n4_; clear hb ho92; obtain ⟨Ao93, co93, eo93⟩ := Kd.R_slice HO_4.out; subst eo93; obtain ⟨Ao94, co94, eo94⟩ := Kd.R_slice HO596.out; subst eo94) | ((with_reducible refine gate_callee (f := 51) rfl ?_); refine goesL_ (some 205) rfl rfl Try.func51 (by kernel_rfl) rfl #[.slice Ao93 x4_5.length co93, .slice Ao94 y594.length co94] rfl mt ?_; (with_reducible refine (prebendref13_nums.calls k5 (fun k_ => some k_ = (.slice Ao93 x4_5.length co93 : Value).ownBlock) (.slice Ao93 x4_5.length co93) x4_5 _ _ y594 t597 w _ ?side1 ?side2 ?side3 ?side4 A86.out).mono ?_); (case side1 => repeat (first | (with_reducible first | exact HB.out | apply below_alloc | apply pw_below_drewN | apply below_drew1 | refine below_set ?_ GE537.out | refine below_set ?_ GE593.out) | exact HB.out)); (case side2 => exact Kd.R_tight rfl HO_4.out); (case side3 => exact Kd.C_kept_own ((Kd.R_apart' HO596.out (Kd.R_typed HO_4.out) (by decide))) (fun k_ hk_ hs_ => (hk_.2) hs_)); (case side4 => exact (Kd.R_reads' HO596.out).2.1); rintro e w95 ⟨v598, rfl, ho0, hb, hkp⟩; refine ⟨_, rfl, ?_⟩; have n0_ := Aside0.mk (blk_kept (mBK BK537.out) hkp (fun hs_ => (fun e_ => (Kd.R_ne HO_4.out BK537.out (by decide)) e_) hs_)); have n1_ := Aside0.mk (blk_kept (mBK BK593.out) hkp (fun hs_ => (fun e_ => (Kd.R_ne HO_4.out BK593.out (by decide)) e_) hs_)); have n2_ := Aside0.mk (Kd.R_mono (ok' := fun k_ => True) (Kd.R_keptB ((Kd.R_apart' HO596.out (Kd.R_typed HO_4.out) (by decide))) hkp (fun k_ hk_ hs_ => (hk_.2) hs_)) (fun k_ hk_ => trivial)); have n3_ := Aside0.mk (Kd.R_mono (ok' := fun k_ => True) ho0 (fun k_ hk_ => trivial)); have n4_ := Aside0.mk (hb); clear BK537; clear BK593; clear HO596; clear HB; clear HO_4; have BK537 := n0_; have BK593 := n1_; have HO596 := n2_; have HO599 := n3_; have HB := n4_; clear n0_ n1_ n2_ n3_ n4_; (try clear hb); (try clear hkp); (try clear ho0)))
                  go_loopg [4, 11] k5 (fun kq v4 v11 w' => ∃ (x4_6 : List Int) (x11_6 : Int), v11 = .int .i64 x11_6 ∧ Aside0 (prebendref13_Encode.l4 kq x4_6 x9_5 x11_6 a0_0 a0_1 a0_2 l0_3 l0_4 l0_5 l0_6 l0_7 ((rd_T100 l0_6 x9_5).f0) ((rd_T100 l0_6 x9_5).f1) ((rd_T100 l0_6 x9_5).f2) ((rd_T100 l0_6 x9_5).f3) ((rd_T100 l0_6 x9_5).f4) ((rd_T100 l0_6 x9_5).f5) ((rd_T100 l0_6 x9_5).f6) ((rd_T100 l0_6 x9_5).f7) ((rd_T100 l0_6 x9_5).f8) ((rd_T100 l0_6 x9_5).f9) ((rd_T100 l0_6 x9_5).f10) ((rd_T100 l0_6 x9_5).f11) = some (r1, r2)) ∧ Aside0 (kq ≤ k5) ∧ Aside0 (Kd.R (Kd.int .u8) 5 w' w.heap.size (fun _ => True) v4 x4_6) ∧ Aside0 (w'.heap[gb537]? = some (.cells #[.int .i64 a0_0, .int .i64 a0_1, .int .i64 a0_2, (.slice A0_3 l0_3.length c0_3), (.slice A0_4 l0_4.length c0_4), (.slice A0_5 l0_5.length c0_5), (.slice (some ad592) l0_6.length c0_6), (.slice A0_7 l0_7.length c0_7)] 67 (0, 0))) ∧ Aside0 (w'.heap[gb593]? = some (.cells #[.int .i64 ((rd_T100 l0_6 x9_5).f0), .int .i64 ((rd_T100 l0_6 x9_5).f1), .int .i64 ((rd_T100 l0_6 x9_5).f2), .int .i64 ((rd_T100 l0_6 x9_5).f3), .int .i64 ((rd_T100 l0_6 x9_5).f4), .int .i64 ((rd_T100 l0_6 x9_5).f5), .int .i64 ((rd_T100 l0_6 x9_5).f6), .int .i64 ((rd_T100 l0_6 x9_5).f7), .int .i64 ((rd_T100 l0_6 x9_5).f8), .int .i64 ((rd_T100 l0_6 x9_5).f9), .int .i64 ((rd_T100 l0_6 x9_5).f10), (.slice A592_11 ((rd_T100 l0_6 x9_5).f11).length c592_11)] 100 (0, 0))) ∧ Aside0 (Below w.heap.size w w'))
                  case atStart => exact ⟨(t597), (0), ez, H', ⟨Nat.le_refl _⟩, ⟨mR HO599.out⟩, ⟨mBK BK537.out⟩, ⟨mBK BK593.out⟩, ⟨mBs HB.out⟩⟩
                  case round =>
                   clear H'
                   (try clear c2); (try clear p2); (try clear c4); (try clear c5); (try clear p5); (try clear q5); (try clear hx5); (try clear c6); (try clear p6); (try clear c7); (try clear c8); (try clear c20); (try clear c20b0); (try clear c21); (try clear c21b0); (try clear c22); (try clear c22b0); (try clear c22b1); (try clear c43); (try clear c43b0); (try clear c44); (try clear c44b0); (try clear c48); (try clear c51); (try clear p54); (try clear q54); (try clear hx54); (try clear p55); (try clear q55); (try clear hx55); (try clear p56); (try clear q56); (try clear hx56); (try clear p57); (try clear q57); (try clear hx57); (try clear c59); (try clear p59); (try clear q59); (try clear hx59); (try clear c62); (try clear c62b0); (try clear c63); (try clear c63b0); (try clear p64); (try clear c79); (try clear c79b0); (try clear c80); (try clear c80b0); (try clear c81); (try clear c81b0); (try clear c81b1); (try clear c84); (try clear c89); (try clear hcz23_0); (try clear hcz23_1); (try clear hcz23_2); (try clear hcz23_3); (try clear hcz23_4); (try clear hcz23_5); (try clear hcz23_6); (try clear hcz23_7); (try clear hcz26_0); (try clear hcz26_1); (try clear hcz26_2); (try clear hcz26_3); (try clear hcz26_4); (try clear hcz26_5); (try clear hcz26_6); (try clear hcz26_7); (try clear hcz37_0); (try clear hcz37_1); (try clear hcz37_2); (try clear hcz37_3); (try clear hcz37_4); (try clear hcz37_5); (try clear hcz37_6); (try clear hcz37_7); (try clear hcz46_0); (try clear hcz46_1); (try clear hcz46_2); (try clear hcz46_3); (try clear hcz46_4); (try clear hcz46_5); (try clear hcz46_6); (try clear hcz46_7); (try clear hcz49_0); (try clear hcz49_1); (try clear hcz49_2); (try clear hcz49_3); (try clear hcz49_4); (try clear hcz49_5); (try clear hcz56_0); (try clear hcz56_1); (try clear hcz56_2); (try clear hcz56_3); (try clear hcz56_4); (try clear hcz56_5); (try clear hcz56_6); (try clear hcz56_7); (try clear hcz5_5); (try clear hcz5_6); (try clear hcz5_7); (try clear hcz65_0); (try clear hcz65_1); (try clear hcz65_2); (try clear hcz65_3); (try clear hcz65_4); (try clear hcz65_5); (try clear hcz65_6); (try clear hcz65_7); (try clear hcz73_0); (try clear hcz73_1); (try clear hcz73_2); (try clear hcz73_3); (try clear hcz73_4); (try clear hcz73_5); (try clear hcz73_6); (try clear hcz73_7); (try clear hcz7_0); (try clear hcz7_1); (try clear hcz7_2); (try clear hcz7_3); (try clear hcz7_4); (try clear hcz7_5); (try clear hcz7_6); (try clear hcz7_7); (try clear hcz82_0); (try clear hcz82_1); (try clear hcz82_2); (try clear hcz82_3); (try clear hcz82_4); (try clear hcz82_5); (try clear hcz82_6); (try clear hcz82_7); (try clear hcz85_0); (try clear hcz85_1); (try clear hcz85_10); (try clear hcz85_11); (try clear hcz85_2); (try clear hcz85_3); (try clear hcz85_4); (try clear hcz85_5); (try clear hcz85_6); (try clear hcz85_7); (try clear hcz85_8); (try clear hcz85_9); (try clear hcz87_0); (try clear hcz87_1); (try clear hcz87_2); (try clear hcz87_3); (try clear hcz87_4); (try clear hcz87_5); (try clear hcz87_6); (try clear hcz87_7); (try clear hcz90_0); (try clear hcz90_1); (try clear hcz90_10); (try clear hcz90_11); (try clear hcz90_2); (try clear hcz90_3); (try clear hcz90_4); (try clear hcz90_5); (try clear hcz90_6); (try clear hcz90_7); (try clear hcz90_8); (try clear hcz90_9); (try clear hcz9_0); (try clear hcz9_1); (try clear hcz9_2); (try clear hcz9_3); (try clear hcz9_4); (try clear hcz9_5); (try clear hcz9_6); (try clear hcz9_7); (try clear hfz11_0); (try clear hfz11_1); (try clear hfz11_2); (try clear hfz11_3); (try clear hfz11_4); (try clear hfz11_5); (try clear hfz11_6); (try clear hfz11_7); (try clear hfz12_0); (try clear hfz12_1); (try clear hfz12_2); (try clear hfz12_3); (try clear hfz12_4); (try clear hfz12_5); (try clear hfz12_6); (try clear hfz12_7); (try clear hfz15_0); (try clear hfz15_1); (try clear hfz15_2); (try clear hfz15_3); (try clear hfz15_4); (try clear hfz15_5); (try clear hfz15_6); (try clear hfz15_7); (try clear hfz23_0); (try clear hfz23_1); (try clear hfz23_2); (try clear hfz23_3); (try clear hfz23_4); (try clear hfz23_5); (try clear hfz23_6); (try clear hfz23_7); (try clear hfz26_0); (try clear hfz26_1); (try clear hfz26_2); (try clear hfz26_3); (try clear hfz26_4); (try clear hfz26_5); (try clear hfz26_6); (try clear hfz26_7); (try clear hfz37_0); (try clear hfz37_1); (try clear hfz37_2); (try clear hfz37_3); (try clear hfz37_4); (try clear hfz37_5); (try clear hfz37_6); (try clear hfz37_7); (try clear hfz46_0); (try clear hfz46_1); (try clear hfz46_2); (try clear hfz46_3); (try clear hfz46_4); (try clear hfz46_5); (try clear hfz46_6); (try clear hfz46_7); (try clear hfz49_0); (try clear hfz49_1); (try clear hfz49_2); (try clear hfz49_3); (try clear hfz49_4); (try clear hfz49_5); (try clear hfz56_0); (try clear hfz56_1); (try clear hfz56_2); (try clear hfz56_3); (try clear hfz56_4); (try clear hfz56_5); (try clear hfz56_6); (try clear hfz56_7); (try clear hfz5_0); (try clear hfz5_1); (try clear hfz5_2); (try clear hfz5_3); (try clear hfz5_4); (try clear hfz5_5); (try clear hfz5_6); (try clear hfz5_7); (try clear hfz65_0); (try clear hfz65_1); (try clear hfz65_2); (try clear hfz65_3); (try clear hfz65_4); (try clear hfz65_5); (try clear hfz65_6); (try clear hfz65_7); (try clear hfz73_0); (try clear hfz73_1); (try clear hfz73_2); (try clear hfz73_3); (try clear hfz73_4); (try clear hfz73_5); (try clear hfz73_6); (try clear hfz73_7); (try clear hfz7_0); (try clear hfz7_1); (try clear hfz7_2); (try clear hfz7_3); (try clear hfz7_4); (try clear hfz7_5); (try clear hfz7_6); (try clear hfz7_7); (try clear hfz82_0); (try clear hfz82_1); (try clear hfz82_2); (try clear hfz82_3); (try clear hfz82_4); (try clear hfz82_5); (try clear hfz82_6); (try clear hfz82_7); (try clear hfz85_0); (try clear hfz85_1); (try clear hfz85_10); (try clear hfz85_11); (try clear hfz85_2); (try clear hfz85_3); (try clear hfz85_4); (try clear hfz85_5); (try clear hfz85_6); (try clear hfz85_7); (try clear hfz85_8); (try clear hfz85_9); (try clear hfz87_0); (try clear hfz87_1); (try clear hfz87_2); (try clear hfz87_3); (try clear hfz87_4); (try clear hfz87_5); (try clear hfz87_6); (try clear hfz87_7); (try clear hfz90_0); (try clear hfz90_1); (try clear hfz90_10); (try clear hfz90_11); (try clear hfz90_2); (try clear hfz90_3); (try clear hfz90_4); (try clear hfz90_5); (try clear hfz90_6); (try clear hfz90_7); (try clear hfz90_8); (try clear hfz90_9); (try clear hfz9_0); (try clear hfz9_1); (try clear hfz9_2); (try clear hfz9_3); (try clear hfz9_4); (try clear hfz9_5); (try clear hfz9_6); (try clear hfz9_7); (try clear hx544_0); (try clear hx544_1); (try clear hx544_2); (try clear hx545_0); (try clear hx545_1); (try clear hx545_2); (try clear hx549_0); (try clear hx549_1); (try clear hx549_2); (try clear hx550_0); (try clear hx550_1); (try clear hx550_2); (try clear hx563_0); (try clear hx563_1); (try clear hx563_2); (try clear hx563_3); (try clear hx563_4); (try clear hx563_5); (try clear hx577_0); (try clear hx577_1); (try clear hx577_2); (try clear hx578_0); (try clear hx578_1); (try clear hx578_2); (try clear hx579_0); (try clear hx579_1); (try clear hx579_2); (try clear hx592_0); (try clear hx592_1); (try clear hx592_10); (try clear hx592_11); (try clear hx592_2); (try clear hx592_3); (try clear hx592_4); (try clear hx592_5); (try clear hx592_6); (try clear hx592_7); (try clear hx592_8); (try clear hx592_9); (try clear p2); (try clear p5); (try clear p54); (try clear p544); (try clear p545); (try clear p549); (try clear p55); (try clear p550); (try clear p56); (try clear p563); (try clear p57); (try clear p577); (try clear p578); (try clear p579); (try clear p592); (try clear p6); (try clear p64); (try clear q5); (try clear q54); (try clear q544); (try clear q545); (try clear q549); (try clear q55); (try clear q550); (try clear q56); (try clear q563); (try clear q57); (try clear q577); (try clear q578); (try clear q579); (try clear q592)
                   obtain ⟨x4_6, x11_6, rfl, HA, HK6, HO_4, BK537, BK593, HB⟩ := hrel
                   cases gk with
                   | zero => exact absurd HA.out (by simp [prebendref13_Encode.l4])
                   | succ k6 =>
                    have H := HA.out
                    clear HA
                    simp only [prebendref13_Encode.l4] at H
                    by_cases c96 : x11_6 < (((rd_T100 l0_6 x9_5).f11).length : Int)
                    ·rw [if_pos c96] at H
                     have c96b0 : decide (x11_6 < (((rd_T100 l0_6 x9_5).f11).length : Int)) = true := decide_eq_true c96
                     clear c96
                     by_cases c97 : 0 ≤ x11_6
                     ·rw [if_pos c97] at H
                      have c97b0 : decide (0 ≤ x11_6) = true := decide_eq_true c97
                      clear c97
                      obtain ⟨y602, hy602⟩ : ∃ y_ : List Int, y_ = (([(rd_T102 ((rd_T100 l0_6 x9_5).f11) x11_6).f0, (rd_T102 ((rd_T100 l0_6 x9_5).f11) x11_6).f1] : List Int)) := ⟨_, rfl⟩
                      replace H : ((prebendref13_nums.f k6 x4_6 y602).bind fun t605 => (prebendref13_Encode.l4 k6 t605 x9_5 (wrap64 (x11_6 + 1)) a0_0 a0_1 a0_2 l0_3 l0_4 l0_5 l0_6 l0_7 ((rd_T100 l0_6 x9_5).f0) ((rd_T100 l0_6 x9_5).f1) ((rd_T100 l0_6 x9_5).f2) ((rd_T100 l0_6 x9_5).f3) ((rd_T100 l0_6 x9_5).f4) ((rd_T100 l0_6 x9_5).f5) ((rd_T100 l0_6 x9_5).f6) ((rd_T100 l0_6 x9_5).f7) ((rd_T100 l0_6 x9_5).f8) ((rd_T100 l0_6 x9_5).f9) ((rd_T100 l0_6 x9_5).f10) ((rd_T100 l0_6 x9_5).f11))) = some (r1, r2) := mH hy602 H
                      have Ny602 := Aside0.mk hy602
                      clear hy602
                      replace H := Option.bind_eq_some_iff.mp H
                      obtain ⟨t605, A980, H⟩ := H
                      replace H : (prebendref13_Encode.l4 k6 t605 x9_5 (wrap64 (x11_6 + 1)) a0_0 a0_1 a0_2 l0_3 l0_4 l0_5 l0_6 l0_7 ((rd_T100 l0_6 x9_5).f0) ((rd_T100 l0_6 x9_5).f1) ((rd_T100 l0_6 x9_5).f2) ((rd_T100 l0_6 x9_5).f3) ((rd_T100 l0_6 x9_5).f4) ((rd_T100 l0_6 x9_5).f5) ((rd_T100 l0_6 x9_5).f6) ((rd_T100 l0_6 x9_5).f7) ((rd_T100 l0_6 x9_5).f8) ((rd_T100 l0_6 x9_5).f9) ((rd_T100 l0_6 x9_5).f10) ((rd_T100 l0_6 x9_5).f11)) = some (r1, r2) := H
                      have A98 := Aside0.mk A980
                      clear A980
                      have H' := Aside0.mk H
                      clear H
                      have hnb99 := NB593_537.out
                      have hnc99 := NB537_593.out
                      have hcz100_0 : wr.cell? ⟨gb593, 0, none⟩ = some (.int .i64 ((rd_T100 l0_6 x9_5).f0)) := (blk_cell BK593.out 0).trans rfl
                      have hcz100_1 : wr.cell? ⟨gb593, 1, none⟩ = some (.int .i64 ((rd_T100 l0_6 x9_5).f1)) := (blk_cell BK593.out 1).trans rfl
                      have hcz100_2 : wr.cell? ⟨gb593, 2, none⟩ = some (.int .i64 ((rd_T100 l0_6 x9_5).f2)) := (blk_cell BK593.out 2).trans rfl
                      have hcz100_3 : wr.cell? ⟨gb593, 3, none⟩ = some (.int .i64 ((rd_T100 l0_6 x9_5).f3)) := (blk_cell BK593.out 3).trans rfl
                      have hcz100_4 : wr.cell? ⟨gb593, 4, none⟩ = some (.int .i64 ((rd_T100 l0_6 x9_5).f4)) := (blk_cell BK593.out 4).trans rfl
                      have hcz100_5 : wr.cell? ⟨gb593, 5, none⟩ = some (.int .i64 ((rd_T100 l0_6 x9_5).f5)) := (blk_cell BK593.out 5).trans rfl
                      have hcz100_6 : wr.cell? ⟨gb593, 6, none⟩ = some (.int .i64 ((rd_T100 l0_6 x9_5).f6)) := (blk_cell BK593.out 6).trans rfl
                      have hcz100_7 : wr.cell? ⟨gb593, 7, none⟩ = some (.int .i64 ((rd_T100 l0_6 x9_5).f7)) := (blk_cell BK593.out 7).trans rfl
                      have hcz100_8 : wr.cell? ⟨gb593, 8, none⟩ = some (.int .i64 ((rd_T100 l0_6 x9_5).f8)) := (blk_cell BK593.out 8).trans rfl
                      have hcz100_9 : wr.cell? ⟨gb593, 9, none⟩ = some (.int .i64 ((rd_T100 l0_6 x9_5).f9)) := (blk_cell BK593.out 9).trans rfl
                      have hcz100_10 : wr.cell? ⟨gb593, 10, none⟩ = some (.int .i64 ((rd_T100 l0_6 x9_5).f10)) := (blk_cell BK593.out 10).trans rfl
                      have hcz100_11 : wr.cell? ⟨gb593, 11, none⟩ = some (.slice A592_11 ((rd_T100 l0_6 x9_5).f11).length c592_11) := (blk_cell BK593.out 11).trans rfl
                      have hfz100_0 := blk_frozen BK593.out 0
                      have hfz100_1 := blk_frozen BK593.out 1
                      have hfz100_2 := blk_frozen BK593.out 2
                      have hfz100_3 := blk_frozen BK593.out 3
                      have hfz100_4 := blk_frozen BK593.out 4
                      have hfz100_5 := blk_frozen BK593.out 5
                      have hfz100_6 := blk_frozen BK593.out 6
                      have hfz100_7 := blk_frozen BK593.out 7
                      have hfz100_8 := blk_frozen BK593.out 8
                      have hfz100_9 := blk_frozen BK593.out 9
                      have hfz100_10 := blk_frozen BK593.out 10
                      have hfz100_11 := blk_frozen BK593.out 11
                      try go_wp2
                      have n0_ := Aside0.mk (Kd.R_drew HO_4.out)
                      have n1_ := Aside0.mk (blk_drew BK537.out)
                      have n2_ := Aside0.mk (blk_drew BK593.out)
                      have n3_ := Aside0.mk (below_drew1 HB.out)
                      clear HO_4; clear BK537; clear BK593; clear HB
                      have HO_4 := n0_
                      have BK537 := n1_
                      have BK593 := n2_
                      have HB := n3_
                      clear n0_; clear n1_; clear n2_; clear n3_
                      have p600 : 0 ≤ (x11_6 : Int) := oda
                      have q600 : x11_6 < (((rd_T100 l0_6 x9_5).f11).length : Int) := oda
                      obtain ⟨ad600, e600, hx600_0, hx600_1⟩ := at_T102 HR592_11.out x11_6 p600 q600
                      have hw600_1 := hx600_1
                      have hw600_0 := hx600_0
                      cases e600
                      replace hx600_0 := (HB.out.cell (World.block_lt_of_cell? w _ hx600_0)).trans hx600_0
                      replace hx600_1 := (HB.out.cell (World.block_lt_of_cell? w _ hx600_1)).trans hx600_1
                      replace p600 := eq_true p600
                      replace q600 := eq_true q600
                      have p601 : 0 ≤ (x11_6 : Int) := oda
                      have q601 : x11_6 < (((rd_T100 l0_6 x9_5).f11).length : Int) := oda
                      obtain ⟨ad601, e601, hx601_0, hx601_1⟩ := at_T102 HR592_11.out x11_6 p601 q601
                      have hw601_1 := hx601_1
                      have hw601_0 := hx601_0
                      obtain rfl : ad600 = ad601 := (by injection e601)
                      replace hx601_0 := (HB.out.cell (World.block_lt_of_cell? w _ hx601_0)).trans hx601_0
                      replace hx601_1 := (HB.out.cell (World.block_lt_of_cell? w _ hx601_1)).trans hx601_1
                      replace p601 := eq_true p601
                      replace q601 := eq_true q601
                      refine start_ (n := 16) (S := fun w' => w'.cell? ⟨gb593, 0, none⟩ = some (.int .i64 ((rd_T100 l0_6 x9_5).f0)) ∧ w'.cell? ⟨gb593, 1, none⟩ = some (.int .i64 ((rd_T100 l0_6 x9_5).f1)) ∧ w'.cell? ⟨gb593, 2, none⟩ = some (.int .i64 ((rd_T100 l0_6 x9_5).f2)) ∧ w'.cell? ⟨gb593, 3, none⟩ = some (.int .i64 ((rd_T100 l0_6 x9_5).f3)) ∧ w'.cell? ⟨gb593, 4, none⟩ = some (.int .i64 ((rd_T100 l0_6 x9_5).f4)) ∧ w'.cell? ⟨gb593, 5, none⟩ = some (.int .i64 ((rd_T100 l0_6 x9_5).f5)) ∧ w'.cell? ⟨gb593, 6, none⟩ = some (.int .i64 ((rd_T100 l0_6 x9_5).f6)) ∧ w'.cell? ⟨gb593, 7, none⟩ = some (.int .i64 ((rd_T100 l0_6 x9_5).f7)) ∧ w'.cell? ⟨gb593, 8, none⟩ = some (.int .i64 ((rd_T100 l0_6 x9_5).f8)) ∧ w'.cell? ⟨gb593, 9, none⟩ = some (.int .i64 ((rd_T100 l0_6 x9_5).f9)) ∧ w'.cell? ⟨gb593, 10, none⟩ = some (.int .i64 ((rd_T100 l0_6 x9_5).f10)) ∧ w'.cell? ⟨gb593, 11, none⟩ = some (.slice (some ad600) ((rd_T100 l0_6 x9_5).f11).length c592_11) ∧ w'.cell? (ad600.add ((x11_6).toNat * 2)) = some (.int .i64 ((rd_T102 ((rd_T100 l0_6 x9_5).f11) x11_6).f0)) ∧ w'.cell? ⟨(ad600.add ((x11_6).toNat * 2)).block, (ad600.add ((x11_6).toNat * 2)).off + 1, none⟩ = some (.int .i64 ((rd_T102 ((rd_T100 l0_6 x9_5).f11) x11_6).f1)) ∧ w'.cell? (ad600.add ((x11_6).toNat * 2)) = some (.int .i64 ((rd_T102 ((rd_T100 l0_6 x9_5).f11) x11_6).f0)) ∧ w'.cell? ⟨(ad600.add ((x11_6).toNat * 2)).block, (ad600.add ((x11_6).toNat * 2)).off + 1, none⟩ = some (.int .i64 ((rd_T102 ((rd_T100 l0_6 x9_5).f11) x11_6).f1))) (ds := []) #[false, false, false, false, false, false, false, false, false, false, false, false, false, false, false, false] (by kernel_rfl) rfl rfl ⟨(blk_cell BK593.out 0).trans rfl, (blk_cell BK593.out 1).trans rfl, (blk_cell BK593.out 2).trans rfl, (blk_cell BK593.out 3).trans rfl, (blk_cell BK593.out 4).trans rfl, (blk_cell BK593.out 5).trans rfl, (blk_cell BK593.out 6).trans rfl, (blk_cell BK593.out 7).trans rfl, (blk_cell BK593.out 8).trans rfl, (blk_cell BK593.out 9).trans rfl, (blk_cell BK593.out 10).trans rfl, (blk_cell BK593.out 11).trans rfl, ((HB.out.cell (World.block_lt_of_cell? w _ hw600_0)).trans hw600_0), ((HB.out.cell (World.block_lt_of_cell? w _ hw600_1)).trans hw600_1), ((HB.out.cell (World.block_lt_of_cell? w _ hw601_0)).trans hw601_0), ((HB.out.cell (World.block_lt_of_cell? w _ hw601_1)).trans hw601_1)⟩ (fun hHeld => ?_); refine with_tabW prebendref13_Encode.tab32 prebendref13_Encode.bits32 (fun HT_ HW_ => ?_)
                      generalize wr.drew = w101 at HO_4 BK537 BK593 HB hx600_0 hx600_1 hx601_0 hx601_1 hHeld ⊢
                      refine plan_ [(0, 213), (1, 214), (3, 216), (7, 220), (9, 222)] ?_
                      iterate 5 (refine planP_ (v := ?_) (a' := ?_) rfl rfl (any_of HT_.out (by kernel_rfl)) (fun _ _ _ h => h) (Or.inl ⟨by rfl, ?_⟩) ?_ ?_; rotate_left; (intro w'; go_simp; with_reducible rfl); rotate_left; (simp only [Act.put, List.setIfInBounds_toArray, List.set_cons_zero, List.set_cons_succ, i64_w, i32_w]; rfl))
                      refine planEnd_ ?_
                      refine plan_ [(2, 215)] ?_
                      refine planT_ (v := ?_) (a' := ?_) rfl rfl (take_ofW HT_.out HW_.out (by kernel_rfl)) (fun _ _ _ h => h) (Or.inl ⟨by rfl, ?_⟩) hHeld ?_ ?_; rotate_left; (rintro w' ⟨s0, s1, s2, s3, s4, s5, s6, s7, s8, s9, s10, s11, s12, s13, s14, s15⟩; go_simp; with_reducible rfl); rotate_left; (simp only [Act.put, List.setIfInBounds_toArray, List.set_cons_zero, List.set_cons_succ, i64_w, i32_w]; rfl)
                      refine planEnd_ ?_
                      refine plan_ [(4, 217), (5, 218)] ?_
                      iterate 2 (refine planP_ (v := ?_) (a' := ?_) rfl rfl (any_of HT_.out (by kernel_rfl)) (fun _ _ _ h => h) (Or.inl ⟨by rfl, ?_⟩) ?_ ?_; rotate_left; (intro w'; go_simp; with_reducible rfl); rotate_left; (simp only [Act.put, List.setIfInBounds_toArray, List.set_cons_zero, List.set_cons_succ, i64_w, i32_w]; rfl))
                      refine planEnd_ ?_
                      refine plan_ [(6, 219), (8, 221)] ?_
                      iterate 2 (refine planT_ (v := ?_) (a' := ?_) rfl rfl (take_ofW HT_.out HW_.out (by kernel_rfl)) (fun _ _ _ h => h) (Or.inl ⟨by rfl, ?_⟩) hHeld ?_ ?_; rotate_left; (rintro w' ⟨s0, s1, s2, s3, s4, s5, s6, s7, s8, s9, s10, s11, s12, s13, s14, s15⟩; go_simp; with_reducible rfl); rotate_left; (simp only [Act.put, List.setIfInBounds_toArray, List.set_cons_zero, List.set_cons_succ, i64_w, i32_w]; rfl))
                      refine planEnd_ ?_
                      refine plan_ [(10, 223), (11, 224)] ?_
                      iterate 2 (refine planP_ (v := ?_) (a' := ?_) rfl rfl (any_of HT_.out (by kernel_rfl)) (fun _ _ _ h => h) (Or.inl ⟨by rfl, ?_⟩) ?_ ?_; rotate_left; (intro w'; go_simp; with_reducible rfl); rotate_left; (simp only [Act.put, List.setIfInBounds_toArray, List.set_cons_zero, List.set_cons_succ, i64_w, i32_w]; rfl))
                      refine planEnd_ ?_
                      refine plan_ [(12, 225)] ?_
                      refine planT_ (v := ?_) (a' := ?_) rfl rfl (take_ofW HT_.out HW_.out (by kernel_rfl)) (fun _ _ _ h => h) (Or.inl ⟨by rfl, ?_⟩) hHeld ?_ ?_; rotate_left; (rintro w' ⟨s0, s1, s2, s3, s4, s5, s6, s7, s8, s9, s10, s11, s12, s13, s14, s15⟩; go_simp; with_reducible rfl); rotate_left; (simp only [Act.put, List.setIfInBounds_toArray, List.set_cons_zero, List.set_cons_succ, i64_w, i32_w]; rfl)
                      refine planEnd_ ?_
                      refine one_ (i := 13) (N := some 226) #[true, true, true, true, true, true, true, true, true, true, true, true, true, true, false, false] rfl rfl (one_of HT_.out (by kernel_rfl)) (by decide) (fun K hK => ?_)
                      refine Kd.R_lit_step (Kd.int .i64) _ 3 ?hg (N := 226) ?hd (xs := ([(rd_T102 ((rd_T100 l0_6 x9_5).f11) x11_6).f0, (rd_T102 ((rd_T100 l0_6 x9_5).f11) x11_6).f1] : List Int)) (inner := [.int .i64 ((rd_T102 ((rd_T100 l0_6 x9_5).f11) x11_6).f0), .int .i64 ((rd_T102 ((rd_T100 l0_6 x9_5).f11) x11_6).f1)]) (ok := fun _ => True) (okp := fun _ => True) ?hr ?hp (fun _ hk => hk) trivial (Below.refl _ _) (Nat.le_refl _) (by simp) ?_; (case hd => rfl); (case hg => rfl); (case hr => first | (go_simp; done) | (go_simp; rfl)); (case hp => exact (Reps.one (show Kd.M (Kd.int .i64) _ _ _ ((rd_T102 ((rd_T100 l0_6 x9_5).f11) x11_6).f0) [.int .i64 ((rd_T102 ((rd_T100 l0_6 x9_5).f11) x11_6).f0)] from rfl) (Reps.one (show Kd.M (Kd.int .i64) _ _ _ ((rd_T102 ((rd_T100 l0_6 x9_5).f11) x11_6).f1) [.int .i64 ((rd_T102 ((rd_T100 l0_6 x9_5).f11) x11_6).f1)] from rfl) (Reps.none _ _))))
                      intro v603 w102 ho103 hb hg_ hnew_
                      clear hg_; clear hnew_
                      (first | rw [← Ny602.out] at ho103 | (simp only [Int.reduceToNat] at ho103; rw [← Ny602.out] at ho103))
                      have n0_ := Aside0.mk (Kd.R_below (mR HO_4.out) hb)
                      have n1_ := Aside0.mk (Kd.R_lower ho103 (below_size (mBs HB.out)))
                      have n2_ := Aside0.mk (blk_below (g := gb537) (o := .cells #[.int .i64 a0_0, .int .i64 a0_1, .int .i64 a0_2, .slice A0_3 l0_3.length c0_3, .slice A0_4 l0_4.length c0_4, .slice A0_5 l0_5.length c0_5, .slice (some ad592) l0_6.length c0_6, .slice A0_7 l0_7.length c0_7] 67 (0, 0)) (mBK BK537.out) hb)
                      have n3_ := Aside0.mk (blk_below (g := gb593) (o := .cells #[.int .i64 ((rd_T100 l0_6 x9_5).f0), .int .i64 ((rd_T100 l0_6 x9_5).f1), .int .i64 ((rd_T100 l0_6 x9_5).f2), .int .i64 ((rd_T100 l0_6 x9_5).f3), .int .i64 ((rd_T100 l0_6 x9_5).f4), .int .i64 ((rd_T100 l0_6 x9_5).f5), .int .i64 ((rd_T100 l0_6 x9_5).f6), .int .i64 ((rd_T100 l0_6 x9_5).f7), .int .i64 ((rd_T100 l0_6 x9_5).f8), .int .i64 ((rd_T100 l0_6 x9_5).f9), .int .i64 ((rd_T100 l0_6 x9_5).f10), .slice (some ad600) ((rd_T100 l0_6 x9_5).f11).length c592_11] 100 (0, 0)) (mBK BK593.out) hb)
                      have n4_ := Aside0.mk (below_step (mBs HB.out) hb)
                      clear HO_4; clear BK537; clear BK593; clear HB
                      have HO_4 := n0_
                      have HO604 := n1_
                      have BK537 := n2_
                      have BK593 := n3_
                      have HB := n4_
                      clear n0_; clear n1_; clear n2_; clear n3_; clear n4_; clear hb; clear ho103
                      obtain ⟨Ao104, co104, eo104⟩ := Kd.R_slice HO_4.out
                      (first | subst eo104 | (injection eo104 with f1_ f2_ f3_; have f4_ := f1_.symm; have f5_ := f3_.symm; clear f1_ f2_ f3_; subst f4_; subst f5_))
                      obtain ⟨Ao105, co105, eo105⟩ := Kd.R_slice HO604.out
                      (first | subst eo105 | (injection eo105 with f1_ f2_ f3_; have f4_ := f1_.symm; have f5_ := f3_.symm; clear f1_ f2_ f3_; subst f4_; subst f5_))
                      refine hK.out _ _ ⟨(blk_cell BK593.out 0).trans rfl, (blk_cell BK593.out 1).trans rfl, (blk_cell BK593.out 2).trans rfl, (blk_cell BK593.out 3).trans rfl, (blk_cell BK593.out 4).trans rfl, (blk_cell BK593.out 5).trans rfl, (blk_cell BK593.out 6).trans rfl, (blk_cell BK593.out 7).trans rfl, (blk_cell BK593.out 8).trans rfl, (blk_cell BK593.out 9).trans rfl, (blk_cell BK593.out 10).trans rfl, (blk_cell BK593.out 11).trans rfl, ((HB.out.cell (World.block_lt_of_cell? w _ hw600_0)).trans hw600_0), ((HB.out.cell (World.block_lt_of_cell? w _ hw600_1)).trans hw600_1), ((HB.out.cell (World.block_lt_of_cell? w _ hw601_0)).trans hw601_0), ((HB.out.cell (World.block_lt_of_cell? w _ hw601_1)).trans hw601_1)⟩ (fun hHeld => ?_)
                      clear hK; clear K
                      refine norm_ (a' := ?_) ?_ ?_
                      rotate_left
                      ·show Act.put _ (some 226) _ = _
                       simp only [Act.put, List.setIfInBounds_toArray, List.set_cons_zero, List.set_cons_succ, i64_w, i32_w]
                       rfl
                      refine one_ (i := 14) (N := some 227) #[true, true, true, true, true, true, true, true, true, true, true, true, true, true, true, false] rfl rfl (one_of HT_.out (by kernel_rfl)) (by decide) (fun K hK => ?_)
                      refine goes_ Try.func51 (by kernel_rfl) rfl #[.slice Ao104 x4_6.length co104, .slice Ao105 y602.length co105] (by rfl) rfl rfl mt ?_
                      with_reducible refine (prebendref13_nums.calls k6 (fun k_ => some k_ = (.slice Ao104 x4_6.length co104 : Value).ownBlock) (.slice Ao104 x4_6.length co104) x4_6 _ _ y602 t605 w _ ?side1 ?side2 ?side3 ?side4 A98.out).mono ?_
                      (case side1 => repeat (first | (with_reducible first | exact HB.out | apply below_alloc | apply pw_below_drewN | apply below_drew1 | refine below_set ?_ GE537.out | refine below_set ?_ GE593.out) | exact HB.out))
                      (case side2 => exact Kd.R_tight rfl HO_4.out)
                      (case side3 => exact Kd.C_kept_own ((Kd.R_apart' HO604.out (Kd.R_typed HO_4.out) (by decide))) (fun k_ hk_ hs_ => (hk_.2) hs_))
                      (case side4 => exact (Kd.R_reads' HO604.out).2.1)
                      rintro e w106 ⟨v606, rfl, ho0, hb, hkp⟩
                      refine ⟨_, rfl, ?_⟩
                      have n0_ := Aside0.mk (blk_kept (mBK BK537.out) hkp (fun hs_ => (fun e_ => (Kd.R_ne HO_4.out BK537.out (by decide)) e_) hs_))
                      have n1_ := Aside0.mk (blk_kept (mBK BK593.out) hkp (fun hs_ => (fun e_ => (Kd.R_ne HO_4.out BK593.out (by decide)) e_) hs_))
                      have n2_ := Aside0.mk (Kd.R_mono (ok' := fun k_ => True) (Kd.R_keptB ((Kd.R_apart' HO604.out (Kd.R_typed HO_4.out) (by decide))) hkp (fun k_ hk_ hs_ => (hk_.2) hs_)) (fun k_ hk_ => trivial))
                      have n3_ := Aside0.mk (Kd.R_mono (ok' := fun k_ => True) ho0 (fun k_ hk_ => trivial))
                      have n4_ := Aside0.mk (hb)
                      clear BK537; clear BK593; clear HO604; clear HB; clear HO_4
                      have BK537 := n0_
                      have BK593 := n1_
                      have HO604 := n2_
                      have HO607 := n3_
                      have HB := n4_
                      clear n0_; clear n1_; clear n2_; clear n3_; clear n4_
                      (try clear hb); (try clear hkp); (try clear ho0)
                      refine hK.out _ _ ⟨(blk_cell BK593.out 0).trans rfl, (blk_cell BK593.out 1).trans rfl, (blk_cell BK593.out 2).trans rfl, (blk_cell BK593.out 3).trans rfl, (blk_cell BK593.out 4).trans rfl, (blk_cell BK593.out 5).trans rfl, (blk_cell BK593.out 6).trans rfl, (blk_cell BK593.out 7).trans rfl, (blk_cell BK593.out 8).trans rfl, (blk_cell BK593.out 9).trans rfl, (blk_cell BK593.out 10).trans rfl, (blk_cell BK593.out 11).trans rfl, ((HB.out.cell (World.block_lt_of_cell? w _ hw600_0)).trans hw600_0), ((HB.out.cell (World.block_lt_of_cell? w _ hw600_1)).trans hw600_1), ((HB.out.cell (World.block_lt_of_cell? w _ hw601_0)).trans hw601_0), ((HB.out.cell (World.block_lt_of_cell? w _ hw601_1)).trans hw601_1)⟩ (fun hHeld => ?_)
                      clear hK; clear K
                      refine norm_ (a' := ?_) ?_ ?_
                      rotate_left
                      ·show Act.put _ (some 227) _ = _
                       simp only [Act.put, List.setIfInBounds_toArray, List.set_cons_zero, List.set_cons_succ, i64_w, i32_w]
                       rfl
                      refine plan_ [(15, 4)] ?_
                      refine planP_ (v := ?_) (a' := ?_) rfl rfl (any_of HT_.out (by kernel_rfl)) (fun _ _ _ h => h) (Or.inl ⟨by rfl, ?_⟩) ?_ ?_; rotate_left; (intro w'; go_simp; with_reducible rfl); rotate_left; (simp only [Act.put, List.setIfInBounds_toArray, List.set_cons_zero, List.set_cons_succ, i64_w, i32_w]; rfl)
                      refine planEnd_ ?_
                      refine done_ (done_of HT_.out (by kernel_rfl)) ?_
                      try go_wp2
                      go_roundg k6
                      case measure => have := HJ1.out; have := HK2.out; have := HK3.out; have := HK4.out; have := HK5.out; have := HK6.out; omega
                      case rel => exact ⟨(t605), (wrap64 (x11_6 + 1)), ez, H', ⟨by have := HJ1.out; have := HK2.out; have := HK3.out; have := HK4.out; have := HK5.out; have := HK6.out; omega⟩, ⟨mR HO607.out⟩, ⟨mBK BK537.out⟩, ⟨mBK BK593.out⟩, ⟨mBs HB.out⟩⟩
                     ·rw [if_neg c97] at H
                      exact absurd H (by simp)
                    ·rw [if_neg c96] at H
                     have c96b0 : decide (x11_6 < (((rd_T100 l0_6 x9_5).f11).length : Int)) = false := decide_eq_false c96
                     clear c96
                     have H' := Aside0.mk H
                     clear H
                     have hnb107 := NB593_537.out
                     have hnc107 := NB537_593.out
                     have hcz108_0 : wr.cell? ⟨gb593, 0, none⟩ = some (.int .i64 ((rd_T100 l0_6 x9_5).f0)) := (blk_cell BK593.out 0).trans rfl
                     have hcz108_1 : wr.cell? ⟨gb593, 1, none⟩ = some (.int .i64 ((rd_T100 l0_6 x9_5).f1)) := (blk_cell BK593.out 1).trans rfl
                     have hcz108_2 : wr.cell? ⟨gb593, 2, none⟩ = some (.int .i64 ((rd_T100 l0_6 x9_5).f2)) := (blk_cell BK593.out 2).trans rfl
                     have hcz108_3 : wr.cell? ⟨gb593, 3, none⟩ = some (.int .i64 ((rd_T100 l0_6 x9_5).f3)) := (blk_cell BK593.out 3).trans rfl
                     have hcz108_4 : wr.cell? ⟨gb593, 4, none⟩ = some (.int .i64 ((rd_T100 l0_6 x9_5).f4)) := (blk_cell BK593.out 4).trans rfl
                     have hcz108_5 : wr.cell? ⟨gb593, 5, none⟩ = some (.int .i64 ((rd_T100 l0_6 x9_5).f5)) := (blk_cell BK593.out 5).trans rfl
                     have hcz108_6 : wr.cell? ⟨gb593, 6, none⟩ = some (.int .i64 ((rd_T100 l0_6 x9_5).f6)) := (blk_cell BK593.out 6).trans rfl
                     have hcz108_7 : wr.cell? ⟨gb593, 7, none⟩ = some (.int .i64 ((rd_T100 l0_6 x9_5).f7)) := (blk_cell BK593.out 7).trans rfl
                     have hcz108_8 : wr.cell? ⟨gb593, 8, none⟩ = some (.int .i64 ((rd_T100 l0_6 x9_5).f8)) := (blk_cell BK593.out 8).trans rfl
                     have hcz108_9 : wr.cell? ⟨gb593, 9, none⟩ = some (.int .i64 ((rd_T100 l0_6 x9_5).f9)) := (blk_cell BK593.out 9).trans rfl
                     have hcz108_10 : wr.cell? ⟨gb593, 10, none⟩ = some (.int .i64 ((rd_T100 l0_6 x9_5).f10)) := (blk_cell BK593.out 10).trans rfl
                     have hcz108_11 : wr.cell? ⟨gb593, 11, none⟩ = some (.slice A592_11 ((rd_T100 l0_6 x9_5).f11).length c592_11) := (blk_cell BK593.out 11).trans rfl
                     have hfz108_0 := blk_frozen BK593.out 0
                     have hfz108_1 := blk_frozen BK593.out 1
                     have hfz108_2 := blk_frozen BK593.out 2
                     have hfz108_3 := blk_frozen BK593.out 3
                     have hfz108_4 := blk_frozen BK593.out 4
                     have hfz108_5 := blk_frozen BK593.out 5
                     have hfz108_6 := blk_frozen BK593.out 6
                     have hfz108_7 := blk_frozen BK593.out 7
                     have hfz108_8 := blk_frozen BK593.out 8
                     have hfz108_9 := blk_frozen BK593.out 9
                     have hfz108_10 := blk_frozen BK593.out 10
                     have hfz108_11 := blk_frozen BK593.out 11
                     go_wp2
                     go_roundg k6
                     case measure => have := HJ1.out; have := HK2.out; have := HK3.out; have := HK4.out; have := HK5.out; have := HK6.out; omega
                     case rel => exact ⟨(x4_6), (wrap64 (x9_5 + 1)), ez, H', ⟨by have := HJ1.out; have := HK2.out; have := HK3.out; have := HK4.out; have := HK5.out; have := HK6.out; omega⟩, ⟨mR HO_4.out⟩, ⟨mBK BK537.out⟩, ⟨mBs HB.out⟩⟩
                ·rw [if_neg c80] at H
                 exact absurd H (by simp)
               ·rw [if_neg c79] at H
                have c79b0 : decide (x9_5 < (l0_6.length : Int)) = false := decide_eq_false c79
                clear c79
                obtain ⟨y608, hy608⟩ : ∃ y_ : List Int, y_ = (([(l0_7.length : Int)] : List Int)) := ⟨_, rfl⟩
                replace H : ((prebendref13_nums.f k5 x4_5 y608).bind fun t611 => (prebendref13_Encode.l5 k5 t611 0 a0_0 a0_1 a0_2 l0_3 l0_4 l0_5 l0_6 l0_7)) = some (r1, r2) := mH hy608 H
                have Ny608 := Aside0.mk hy608
                clear hy608
                replace H := Option.bind_eq_some_iff.mp H
                obtain ⟨t611, A1090, H⟩ := H
                replace H : (prebendref13_Encode.l5 k5 t611 0 a0_0 a0_1 a0_2 l0_3 l0_4 l0_5 l0_6 l0_7) = some (r1, r2) := H
                have A109 := Aside0.mk A1090
                clear A1090
                have H' := Aside0.mk H
                clear H
                have hcz110_0 : wr.cell? ⟨gb537, 0, none⟩ = some (.int .i64 a0_0) := (blk_cell BK537.out 0).trans rfl
                have hcz110_1 : wr.cell? ⟨gb537, 1, none⟩ = some (.int .i64 a0_1) := (blk_cell BK537.out 1).trans rfl
                have hcz110_2 : wr.cell? ⟨gb537, 2, none⟩ = some (.int .i64 a0_2) := (blk_cell BK537.out 2).trans rfl
                have hcz110_3 : wr.cell? ⟨gb537, 3, none⟩ = some (.slice A0_3 l0_3.length c0_3) := (blk_cell BK537.out 3).trans rfl
                have hcz110_4 : wr.cell? ⟨gb537, 4, none⟩ = some (.slice A0_4 l0_4.length c0_4) := (blk_cell BK537.out 4).trans rfl
                have hcz110_5 : wr.cell? ⟨gb537, 5, none⟩ = some (.slice A0_5 l0_5.length c0_5) := (blk_cell BK537.out 5).trans rfl
                have hcz110_6 : wr.cell? ⟨gb537, 6, none⟩ = some (.slice A0_6 l0_6.length c0_6) := (blk_cell BK537.out 6).trans rfl
                have hcz110_7 : wr.cell? ⟨gb537, 7, none⟩ = some (.slice A0_7 l0_7.length c0_7) := (blk_cell BK537.out 7).trans rfl
                have hfz110_0 := blk_frozen BK537.out 0
                have hfz110_1 := blk_frozen BK537.out 1
                have hfz110_2 := blk_frozen BK537.out 2
                have hfz110_3 := blk_frozen BK537.out 3
                have hfz110_4 := blk_frozen BK537.out 4
                have hfz110_5 := blk_frozen BK537.out 5
                have hfz110_6 := blk_frozen BK537.out 6
                have hfz110_7 := blk_frozen BK537.out 7
                go_wp2_with (first | ((with_reducible refine gate_dst (N := 232) rfl ?_); (try (refine gate_guard (by rfl) ?_; dsimp only)); refine Kd.R_lit (Kd.int .i64) _ 3 ?hg (N := 232) ?hd (xs := ([(l0_7.length : Int)] : List Int)) (inner := [.int .i64 (l0_7.length : Int)]) (ok := fun _ => True) (okp := fun _ => True) ?hr ?hp (fun _ hk => hk) trivial (Below.refl _ _) (Nat.le_refl _) (by simp) ?_; (case hd => rfl); (case hg => rfl); (case hr => first | (go_simp; done) | (go_simp; rfl)); (case hp => exact (Reps.one (show Kd.M (Kd.int .i64) _ _ _ (l0_7.length : Int) [.int .i64 (l0_7.length : Int)] from rfl) (Reps.none _ _))); intro v609 w111 ho112 hb hg_ hnew_; clear hg_ hnew_; (first | rw [← Ny608.out] at ho112 | (simp only [Int.reduceToNat] at ho112; rw [← Ny608.out] at ho112)); have n0_ := Aside0.mk (Kd.R_below (mR HO_4.out) hb); have n1_ := Aside0.mk (Kd.R_lower ho112 (below_size (mBs HB.out))); have n2_ := Aside0.mk (blk_below (g := gb537) (o := .cells #[.int .i64 a0_0, .int .i64 a0_1, .int .i64 a0_2, .slice A0_3 l0_3.length c0_3, .slice A0_4 l0_4.length c0_4, .slice A0_5 l0_5.length c0_5, .slice A0_6 l0_6.length c0_6, .slice A0_7 l0_7.length c0_7] 67 (0, 0)) (mBK BK537.out) hb); have n3_ := Aside0.mk (below_step (mBs HB.out) hb); clear HO_4; clear BK537; clear HB; have HO_4 := n0_; have HO610 := n1_; have BK537 := n2_; have HB := n3_; clear n0_ n1_ n2_ n3_; clear hb ho112; obtain ⟨Ao113, co113, eo113⟩ := Kd.R_slice HO_4.out; subst eo113; obtain ⟨Ao114, co114, eo114⟩ := Kd.R_slice HO610.out; subst eo114) | ((with_reducible refine gate_callee (f := 51) rfl ?_); refine goesL_ (some 233) rfl rfl Try.func51 (by kernel_rfl) rfl #[.slice Ao113 x4_5.length co113, .slice Ao114 y608.length co114] rfl mt ?_; (with_reducible refine (prebendref13_nums.calls k5 (fun k_ => some k_ = (.slice Ao113 x4_5.length co113 : Value).ownBlock) (.slice Ao113 x4_5.length co113) x4_5 _ _ y608 t611 w _ ?side1 ?side2 ?side3 ?side4 A109.out).mono ?_); (case side1 => repeat (first | (with_reducible first | exact HB.out | apply below_alloc | apply pw_below_drewN | apply below_drew1 | refine below_set ?_ GE537.out) | exact HB.out)); (case side2 => exact Kd.R_tight rfl HO_4.out); (case side3 => exact Kd.C_kept_own ((Kd.R_apart' HO610.out (Kd.R_typed HO_4.out) (by decide))) (fun k_ hk_ hs_ => (hk_.2) hs_)); (case side4 => exact (Kd.R_reads' HO610.out).2.1); rintro e w115 ⟨v612, rfl, ho0, hb, hkp⟩; refine ⟨_, rfl, ?_⟩; have n0_ := Aside0.mk (blk_kept (mBK BK537.out) hkp (fun hs_ => (fun e_ => (Kd.R_ne HO_4.out BK537.out (by decide)) e_) hs_)); have n1_ := Aside0.mk (Kd.R_mono (ok' := fun k_ => True) (Kd.R_keptB ((Kd.R_apart' HO610.out (Kd.R_typed HO_4.out) (by decide))) hkp (fun k_ hk_ hs_ => (hk_.2) hs_)) (fun k_ hk_ => trivial)); have n2_ := Aside0.mk (Kd.R_mono (ok' := fun k_ => True) ho0 (fun k_ hk_ => trivial)); have n3_ := Aside0.mk (hb); clear BK537; clear HO610; clear HB; clear HO_4; have BK537 := n0_; have HO610 := n1_; have HO613 := n2_; have HB := n3_; clear n0_ n1_ n2_ n3_; (try clear hb); (try clear hkp); (try clear ho0)))
                go_loopg [4, 12] k5 (fun kq v4 v12 w' => ∃ (x4_6 : List Int) (x12_6 : Int), v12 = .int .i64 x12_6 ∧ Aside0 (prebendref13_Encode.l5 kq x4_6 x12_6 a0_0 a0_1 a0_2 l0_3 l0_4 l0_5 l0_6 l0_7 = some (r1, r2)) ∧ Aside0 (kq ≤ k5) ∧ Aside0 (Kd.R (Kd.int .u8) 5 w' w.heap.size (fun _ => True) v4 x4_6) ∧ Aside0 (w'.heap[gb537]? = some (.cells #[.int .i64 a0_0, .int .i64 a0_1, .int .i64 a0_2, (.slice A0_3 l0_3.length c0_3), (.slice A0_4 l0_4.length c0_4), (.slice A0_5 l0_5.length c0_5), (.slice A0_6 l0_6.length c0_6), (.slice A0_7 l0_7.length c0_7)] 67 (0, 0))) ∧ Aside0 (Below w.heap.size w w'))
                case atStart => exact ⟨(t611), (0), ez, H', ⟨Nat.le_refl _⟩, ⟨mR HO613.out⟩, ⟨mBK BK537.out⟩, ⟨mBs HB.out⟩⟩
                case round =>
                 clear H'
                 (try clear c1); (try clear p2); (try clear c5); (try clear p5); (try clear q5); (try clear hx5); (try clear p6); (try clear q6); (try clear hx6); (try clear c7); (try clear c8); (try clear c9); (try clear c10); (try clear c51); (try clear p54); (try clear q54); (try clear hx54); (try clear p55); (try clear q55); (try clear hx55); (try clear p56); (try clear q56); (try clear hx56); (try clear p57); (try clear q57); (try clear hx57); (try clear c59); (try clear p59); (try clear q59); (try clear hx59); (try clear p60); (try clear q60); (try clear hx60); (try clear p64); (try clear c79); (try clear c79b0); (try clear c80); (try clear c96); (try clear c96b0); (try clear c97); (try clear c97b0); (try clear c99); (try clear c107); (try clear hcz100_0); (try clear hcz100_1); (try clear hcz100_10); (try clear hcz100_11); (try clear hcz100_2); (try clear hcz100_3); (try clear hcz100_4); (try clear hcz100_5); (try clear hcz100_6); (try clear hcz100_7); (try clear hcz100_8); (try clear hcz100_9); (try clear hcz108_0); (try clear hcz108_1); (try clear hcz108_10); (try clear hcz108_11); (try clear hcz108_2); (try clear hcz108_3); (try clear hcz108_4); (try clear hcz108_5); (try clear hcz108_6); (try clear hcz108_7); (try clear hcz108_8); (try clear hcz108_9); (try clear hcz110_0); (try clear hcz110_1); (try clear hcz110_2); (try clear hcz110_3); (try clear hcz110_4); (try clear hcz110_5); (try clear hcz110_6); (try clear hcz110_7); (try clear hcz85_4); (try clear hcz85_5); (try clear hcz85_6); (try clear hcz85_7); (try clear hcz85_8); (try clear hcz85_9); (try clear hcz87_0); (try clear hcz87_1); (try clear hcz87_2); (try clear hcz87_3); (try clear hcz87_4); (try clear hcz87_5); (try clear hcz87_6); (try clear hcz87_7); (try clear hcz90_0); (try clear hcz90_1); (try clear hcz90_10); (try clear hcz90_11); (try clear hcz90_2); (try clear hcz90_3); (try clear hcz90_4); (try clear hcz90_5); (try clear hcz90_6); (try clear hcz90_7); (try clear hcz90_8); (try clear hcz90_9); (try clear hcz9_0); (try clear hcz9_1); (try clear hcz9_2); (try clear hcz9_3); (try clear hcz9_4); (try clear hcz9_5); (try clear hcz9_6); (try clear hcz9_7); (try clear hfz100_0); (try clear hfz100_1); (try clear hfz100_10); (try clear hfz100_11); (try clear hfz100_2); (try clear hfz100_3); (try clear hfz100_4); (try clear hfz100_5); (try clear hfz100_6); (try clear hfz100_7); (try clear hfz100_8); (try clear hfz100_9); (try clear hfz108_0); (try clear hfz108_1); (try clear hfz108_10); (try clear hfz108_11); (try clear hfz108_2); (try clear hfz108_3); (try clear hfz108_4); (try clear hfz108_5); (try clear hfz108_6); (try clear hfz108_7); (try clear hfz108_8); (try clear hfz108_9); (try clear hfz110_0); (try clear hfz110_1); (try clear hfz110_2); (try clear hfz110_3); (try clear hfz110_4); (try clear hfz110_5); (try clear hfz110_6); (try clear hfz110_7); (try clear hfz11_0); (try clear hfz11_1); (try clear hfz11_2); (try clear hfz11_3); (try clear hfz11_4); (try clear hfz11_5); (try clear hfz11_6); (try clear hfz11_7); (try clear hfz12_0); (try clear hfz12_1); (try clear hfz12_2); (try clear hfz12_3); (try clear hfz12_4); (try clear hfz12_5); (try clear hfz12_6); (try clear hfz12_7); (try clear hfz15_0); (try clear hfz15_1); (try clear hfz15_2); (try clear hfz15_3); (try clear hfz15_4); (try clear hfz15_5); (try clear hfz15_6); (try clear hfz15_7); (try clear hfz23_0); (try clear hfz23_1); (try clear hfz23_2); (try clear hfz23_3); (try clear hfz23_4); (try clear hfz23_5); (try clear hfz23_6); (try clear hfz23_7); (try clear hfz26_0); (try clear hfz26_1); (try clear hfz26_2); (try clear hfz26_3); (try clear hfz26_4); (try clear hfz26_5); (try clear hfz26_6); (try clear hfz26_7); (try clear hfz37_0); (try clear hfz37_1); (try clear hfz37_2); (try clear hfz37_3); (try clear hfz37_4); (try clear hfz37_5); (try clear hfz37_6); (try clear hfz37_7); (try clear hfz46_0); (try clear hfz46_1); (try clear hfz46_2); (try clear hfz46_3); (try clear hfz46_4); (try clear hfz46_5); (try clear hfz46_6); (try clear hfz46_7); (try clear hfz49_0); (try clear hfz49_1); (try clear hfz49_2); (try clear hfz49_3); (try clear hfz49_4); (try clear hfz49_5); (try clear hfz56_0); (try clear hfz56_1); (try clear hfz56_2); (try clear hfz56_3); (try clear hfz56_4); (try clear hfz56_5); (try clear hfz56_6); (try clear hfz56_7); (try clear hfz5_0); (try clear hfz5_1); (try clear hfz5_2); (try clear hfz5_3); (try clear hfz5_4); (try clear hfz5_5); (try clear hfz5_6); (try clear hfz5_7); (try clear hfz65_0); (try clear hfz65_1); (try clear hfz65_2); (try clear hfz65_3); (try clear hfz65_4); (try clear hfz65_5); (try clear hfz65_6); (try clear hfz65_7); (try clear hfz73_0); (try clear hfz73_1); (try clear hfz73_2); (try clear hfz73_3); (try clear hfz73_4); (try clear hfz73_5); (try clear hfz73_6); (try clear hfz73_7); (try clear hfz7_0); (try clear hfz7_1); (try clear hfz7_2); (try clear hfz7_3); (try clear hfz7_4); (try clear hfz7_5); (try clear hfz7_6); (try clear hfz7_7); (try clear hfz82_0); (try clear hfz82_1); (try clear hfz82_2); (try clear hfz82_3); (try clear hfz82_4); (try clear hfz82_5); (try clear hfz82_6); (try clear hfz82_7); (try clear hfz85_0); (try clear hfz85_1); (try clear hfz85_10); (try clear hfz85_11); (try clear hfz85_2); (try clear hfz85_3); (try clear hfz85_4); (try clear hfz85_5); (try clear hfz85_6); (try clear hfz85_7); (try clear hfz85_8); (try clear hfz85_9); (try clear hfz87_0); (try clear hfz87_1); (try clear hfz87_2); (try clear hfz87_3); (try clear hfz87_4); (try clear hfz87_5); (try clear hfz87_6); (try clear hfz87_7); (try clear hfz90_0); (try clear hfz90_1); (try clear hfz90_10); (try clear hfz90_11); (try clear hfz90_2); (try clear hfz90_3); (try clear hfz90_4); (try clear hfz90_5); (try clear hfz90_6); (try clear hfz90_7); (try clear hfz90_8); (try clear hfz90_9); (try clear hfz9_0); (try clear hfz9_1); (try clear hfz9_2); (try clear hfz9_3); (try clear hfz9_4); (try clear hfz9_5); (try clear hfz9_6); (try clear hfz9_7); (try clear hx544_0); (try clear hx544_1); (try clear hx544_2); (try clear hx545_0); (try clear hx545_1); (try clear hx545_2); (try clear hx549_0); (try clear hx549_1); (try clear hx549_2); (try clear hx550_0); (try clear hx550_1); (try clear hx550_2); (try clear hx563_0); (try clear hx563_1); (try clear hx563_2); (try clear hx563_3); (try clear hx563_4); (try clear hx563_5); (try clear hx577_0); (try clear hx577_1); (try clear hx577_2); (try clear hx578_0); (try clear hx578_1); (try clear hx578_2); (try clear hx579_0); (try clear hx579_1); (try clear hx579_2); (try clear hx592_0); (try clear hx592_1); (try clear hx592_10); (try clear hx592_11); (try clear hx592_2); (try clear hx592_3); (try clear hx592_4); (try clear hx592_5); (try clear hx592_6); (try clear hx592_7); (try clear hx592_8); (try clear hx592_9); (try clear hx600_0); (try clear hx600_1); (try clear hx601_0); (try clear hx601_1); (try clear p2); (try clear p5); (try clear p54); (try clear p544); (try clear p545); (try clear p549); (try clear p55); (try clear p550); (try clear p56); (try clear p563); (try clear p57); (try clear p577); (try clear p578); (try clear p579); (try clear p592); (try clear p6); (try clear p600); (try clear p601); (try clear p64); (try clear q5); (try clear q54); (try clear q544); (try clear q545); (try clear q549); (try clear q55); (try clear q550); (try clear q56); (try clear q563); (try clear q57); (try clear q577); (try clear q578); (try clear q579); (try clear q592); (try clear q600); (try clear q601)
                 obtain ⟨x4_6, x12_6, rfl, HA, HK6, HO_4, BK537, HB⟩ := hrel
                 cases gk with
                 | zero => exact absurd HA.out (by simp [prebendref13_Encode.l5])
                 | succ k6 =>
                  have H := HA.out
                  clear HA
                  simp only [prebendref13_Encode.l5] at H
                  by_cases c116 : x12_6 < (l0_7.length : Int)
                  ·rw [if_pos c116] at H
                   have c116b0 : decide (x12_6 < (l0_7.length : Int)) = true := decide_eq_true c116
                   clear c116
                   by_cases c117 : 0 ≤ x12_6
                   ·rw [if_pos c117] at H
                    have c117b0 : decide (0 ≤ x12_6) = true := decide_eq_true c117
                    clear c117
                    by_cases c118 : ((rdOf ByteArray.empty l0_7 x12_6).size : Int) > 16
                    ·rw [if_pos c118] at H
                     have c118b0 : decide (16 < ((rdOf ByteArray.empty l0_7 x12_6).size : Int)) = true := decide_eq_true c118
                     have c118b1 : decide (16 < (rdOf ByteArray.empty l0_7 x12_6).size) = true := decide_eq_true (by omega)
                     clear c118
                     simp only [Option.some.injEq, Prod.mk.injEq] at H
                     obtain ⟨rfl, rfl⟩ := H
                     have hcz119_0 : wr.cell? ⟨gb537, 0, none⟩ = some (.int .i64 a0_0) := (blk_cell BK537.out 0).trans rfl
                     have hcz119_1 : wr.cell? ⟨gb537, 1, none⟩ = some (.int .i64 a0_1) := (blk_cell BK537.out 1).trans rfl
                     have hcz119_2 : wr.cell? ⟨gb537, 2, none⟩ = some (.int .i64 a0_2) := (blk_cell BK537.out 2).trans rfl
                     have hcz119_3 : wr.cell? ⟨gb537, 3, none⟩ = some (.slice A0_3 l0_3.length c0_3) := (blk_cell BK537.out 3).trans rfl
                     have hcz119_4 : wr.cell? ⟨gb537, 4, none⟩ = some (.slice A0_4 l0_4.length c0_4) := (blk_cell BK537.out 4).trans rfl
                     have hcz119_5 : wr.cell? ⟨gb537, 5, none⟩ = some (.slice A0_5 l0_5.length c0_5) := (blk_cell BK537.out 5).trans rfl
                     have hcz119_6 : wr.cell? ⟨gb537, 6, none⟩ = some (.slice A0_6 l0_6.length c0_6) := (blk_cell BK537.out 6).trans rfl
                     have hcz119_7 : wr.cell? ⟨gb537, 7, none⟩ = some (.slice A0_7 l0_7.length c0_7) := (blk_cell BK537.out 7).trans rfl
                     have hfz119_0 := blk_frozen BK537.out 0
                     have hfz119_1 := blk_frozen BK537.out 1
                     have hfz119_2 := blk_frozen BK537.out 2
                     have hfz119_3 := blk_frozen BK537.out 3
                     have hfz119_4 := blk_frozen BK537.out 4
                     have hfz119_5 := blk_frozen BK537.out 5
                     have hfz119_6 := blk_frozen BK537.out 6
                     have hfz119_7 := blk_frozen BK537.out 7
                     have p614 : 0 ≤ (x12_6 : Int) := oda
                     have q614 : x12_6 < (l0_7.length : Int) := oda
                     obtain ⟨ad614, e614, hx614_0⟩ := Kd.at_string HR0_7.out x12_6 p614 q614
                     cases e614
                     replace hx614_0 := (HB.out.cell (World.block_lt_of_cell? w _ hx614_0)).trans hx614_0
                     replace p614 := eq_true p614
                     replace q614 := eq_true q614
                     go_wp2
                     go_ret2
                     exact ⟨_, by first | rfl | (simp [errW_none, errW_some] <;> rfl) | (simp [*, errW_none, errW_some] <;> rfl), by first | exact Kd.R_nil _ _ _ _ _ | exact Kd.N_nil _ _ _ _ _ | exact Kd.V_nil _ _ _ _ _ | exact Kd.Q_nil _ _ _ _ _ | exact Kd.S_nil _ _ _ _ _, by repeat (first | (with_reducible first | exact HB.out | apply below_alloc | apply pw_below_drewN | apply below_drew1 | refine below_set ?_ GE537.out) | exact HB.out)⟩
                    ·rw [if_neg c118] at H
                     have c118b0 : decide (16 < ((rdOf ByteArray.empty l0_7 x12_6).size : Int)) = false := decide_eq_false c118
                     have c118b1 : decide (16 < (rdOf ByteArray.empty l0_7 x12_6).size) = false := decide_eq_false (by omega)
                     clear c118
                     replace H := Option.bind_eq_some_iff.mp H
                     obtain ⟨t616, A1200, H⟩ := H
                     replace H : (prebendref13_Encode.l5 k6 t616 (wrap64 (x12_6 + 1)) a0_0 a0_1 a0_2 l0_3 l0_4 l0_5 l0_6 l0_7) = some (r1, r2) := H
                     have A120 := Aside0.mk A1200
                     clear A1200
                     have H' := Aside0.mk H
                     clear H
                     have hcz121_0 : wr.cell? ⟨gb537, 0, none⟩ = some (.int .i64 a0_0) := (blk_cell BK537.out 0).trans rfl
                     have hcz121_1 : wr.cell? ⟨gb537, 1, none⟩ = some (.int .i64 a0_1) := (blk_cell BK537.out 1).trans rfl
                     have hcz121_2 : wr.cell? ⟨gb537, 2, none⟩ = some (.int .i64 a0_2) := (blk_cell BK537.out 2).trans rfl
                     have hcz121_3 : wr.cell? ⟨gb537, 3, none⟩ = some (.slice A0_3 l0_3.length c0_3) := (blk_cell BK537.out 3).trans rfl
                     have hcz121_4 : wr.cell? ⟨gb537, 4, none⟩ = some (.slice A0_4 l0_4.length c0_4) := (blk_cell BK537.out 4).trans rfl
                     have hcz121_5 : wr.cell? ⟨gb537, 5, none⟩ = some (.slice A0_5 l0_5.length c0_5) := (blk_cell BK537.out 5).trans rfl
                     have hcz121_6 : wr.cell? ⟨gb537, 6, none⟩ = some (.slice A0_6 l0_6.length c0_6) := (blk_cell BK537.out 6).trans rfl
                     have hcz121_7 : wr.cell? ⟨gb537, 7, none⟩ = some (.slice A0_7 l0_7.length c0_7) := (blk_cell BK537.out 7).trans rfl
                     have hfz121_0 := blk_frozen BK537.out 0
                     have hfz121_1 := blk_frozen BK537.out 1
                     have hfz121_2 := blk_frozen BK537.out 2
                     have hfz121_3 := blk_frozen BK537.out 3
                     have hfz121_4 := blk_frozen BK537.out 4
                     have hfz121_5 := blk_frozen BK537.out 5
                     have hfz121_6 := blk_frozen BK537.out 6
                     have hfz121_7 := blk_frozen BK537.out 7
                     have p614 : 0 ≤ (x12_6 : Int) := oda
                     have q614 : x12_6 < (l0_7.length : Int) := oda
                     obtain ⟨ad614, e614, hx614_0⟩ := Kd.at_string HR0_7.out x12_6 p614 q614
                     cases e614
                     replace hx614_0 := (HB.out.cell (World.block_lt_of_cell? w _ hx614_0)).trans hx614_0
                     replace p614 := eq_true p614
                     replace q614 := eq_true q614
                     have p615 : 0 ≤ (x12_6 : Int) := oda
                     have q615 : x12_6 < (l0_7.length : Int) := oda
                     obtain ⟨ad615, e615, hx615_0⟩ := Kd.at_string HR0_7.out x12_6 p615 q615
                     obtain rfl : ad614 = ad615 := (by injection e615)
                     replace hx615_0 := (HB.out.cell (World.block_lt_of_cell? w _ hx615_0)).trans hx615_0
                     replace p615 := eq_true p615
                     replace q615 := eq_true q615
                     obtain ⟨Ao122, co122, eo122⟩ := Kd.R_slice HO_4.out
                     subst eo122
                     go_wp2_with (first | ((with_reducible refine gate_callee (f := 20) rfl ?_); refine goesL_ (some 254) rfl rfl Try.func20 (by kernel_rfl) rfl #[.slice Ao122 x4_6.length co122, .string (rdOf ByteArray.empty l0_7 x12_6)] rfl mt ?_; (with_reducible refine (prebendref03_Text.calls _ _ x4_6 (rdOf ByteArray.empty l0_7 x12_6) t616 _ ?side1 ?side2 A120.out).mono ?_); (case side1 => exact mC (Kd.R_reads' HO_4.out).2.2); (case side2 => exact (Kd.R_reads' HO_4.out).2.1); rintro e w123 ⟨v617, rfl, ho0, hb⟩; refine ⟨_, rfl, ?_⟩; have n0_ := Aside0.mk (Kd.R_elder' (mR HO_4.out) (Kd.R_base ho0) hb); have n1_ := Aside0.mk (Kd.R_lower (Kd.R_new' ho0 (Kd.R_lt (mR HO_4.out))) (below_size (mBs HB.out))); have n2_ := Aside0.mk (blk_below (g := gb537) (o := .cells #[.int .i64 a0_0, .int .i64 a0_1, .int .i64 a0_2, .slice A0_3 l0_3.length c0_3, .slice A0_4 l0_4.length c0_4, .slice A0_5 l0_5.length c0_5, .slice A0_6 l0_6.length c0_6, .slice (some ad614) l0_7.length c0_7] 67 (0, 0)) (mBK BK537.out) hb); have n3_ := Aside0.mk (below_step (mBs HB.out) hb); clear HO_4; clear BK537; clear HB; have HO_4 := n0_; have HO618 := n1_; have BK537 := n2_; have HB := n3_; clear n0_ n1_ n2_ n3_; (try clear hb); (try clear hb2); (try clear hk); (try clear hi); (try clear ho0)))
                     go_roundg k6
                     case measure => have := HJ1.out; have := HK2.out; have := HK3.out; have := HK4.out; have := HK5.out; have := HK6.out; omega
                     case rel => exact ⟨(t616), (wrap64 (x12_6 + 1)), ez, H', ⟨by have := HJ1.out; have := HK2.out; have := HK3.out; have := HK4.out; have := HK5.out; have := HK6.out; omega⟩, ⟨by (with_reducible repeat (first | apply Kd.R_alloc | apply Kd.R_drewN | apply Kd.R_drew)); exact Kd.R_mono HO618.out (fun _ hk => trivial)⟩, ⟨mBK BK537.out⟩, ⟨mBs HB.out⟩⟩
                   ·rw [if_neg c117] at H
                    exact absurd H (by simp)
                  ·rw [if_neg c116] at H
                   have c116b0 : decide (x12_6 < (l0_7.length : Int)) = false := decide_eq_false c116
                   clear c116
                   simp only [Option.some.injEq, Prod.mk.injEq] at H
                   obtain ⟨rfl, rfl⟩ := H
                   have hcz124_0 : wr.cell? ⟨gb537, 0, none⟩ = some (.int .i64 a0_0) := (blk_cell BK537.out 0).trans rfl
                   have hcz124_1 : wr.cell? ⟨gb537, 1, none⟩ = some (.int .i64 a0_1) := (blk_cell BK537.out 1).trans rfl
                   have hcz124_2 : wr.cell? ⟨gb537, 2, none⟩ = some (.int .i64 a0_2) := (blk_cell BK537.out 2).trans rfl
                   have hcz124_3 : wr.cell? ⟨gb537, 3, none⟩ = some (.slice A0_3 l0_3.length c0_3) := (blk_cell BK537.out 3).trans rfl
                   have hcz124_4 : wr.cell? ⟨gb537, 4, none⟩ = some (.slice A0_4 l0_4.length c0_4) := (blk_cell BK537.out 4).trans rfl
                   have hcz124_5 : wr.cell? ⟨gb537, 5, none⟩ = some (.slice A0_5 l0_5.length c0_5) := (blk_cell BK537.out 5).trans rfl
                   have hcz124_6 : wr.cell? ⟨gb537, 6, none⟩ = some (.slice A0_6 l0_6.length c0_6) := (blk_cell BK537.out 6).trans rfl
                   have hcz124_7 : wr.cell? ⟨gb537, 7, none⟩ = some (.slice A0_7 l0_7.length c0_7) := (blk_cell BK537.out 7).trans rfl
                   have hfz124_0 := blk_frozen BK537.out 0
                   have hfz124_1 := blk_frozen BK537.out 1
                   have hfz124_2 := blk_frozen BK537.out 2
                   have hfz124_3 := blk_frozen BK537.out 3
                   have hfz124_4 := blk_frozen BK537.out 4
                   have hfz124_5 := blk_frozen BK537.out 5
                   have hfz124_6 := blk_frozen BK537.out 6
                   have hfz124_7 := blk_frozen BK537.out 7
                   go_wp2
                   go_ret2
                   exact ⟨_, by first | rfl | (simp [errW_none, errW_some] <;> rfl) | (simp [*, errW_none, errW_some] <;> rfl), mR HO_4.out, by repeat (first | (with_reducible first | exact HB.out | apply below_alloc | apply pw_below_drewN | apply below_drew1 | refine below_set ?_ GE537.out) | exact HB.out)⟩

end Go.Proofs.Ytjmkpcnekghmhaa.PAll
end
section
namespace Go.Proofs.Ytjmkpcnekghmhaa.PAll
open Go.RowKit Go.Proofs.YtjmkpcnekghmhaaW.PrintWords Go.Proofs.YtjmkpcnekghmhaaW.PrintLast Go.Proofs.YtjmkpcnekghmhaaW.PrintMore
attribute [local go_sem] max2_int min2_int max_two min_two max_three min_three max_four min_four   -- for this text's walks alone
set_option linter.unusedVariables false
set_option linter.unusedSimpArgs false

def slices_Clone_byte.f (l0 : List Int) : Option (List Int) := (some (([] : List Int) : List Int)).bind fun y101 => (if y101.length + l0.length < 140737488355328 then (some (y101 ++ l0)) else (none))
set_option maxHeartbeats 8000000 in
set_option maxRecDepth 100000 in
theorem slices_Clone_byte.calls_some (ad0_ : Addr) (c0 : Nat) (l0 : List Int) (r : List Int) (w : World) (hr0 : Kd.C (Kd.int .u8) w (some ad0_) l0.length l0) (hc0 : l0.length ≤ c0) (h : slices_Clone_byte.f l0 = some r) :
    Calls Try.prog 41 #[.slice (some ad0_) l0.length c0] w fun e w' => ∃ v0_ : Value, e = .returned (v0_) ∧ Kd.R (Kd.int .u8) 5 w' w.heap.size (fun _ => True) v0_ r ∧ Below w.heap.size w w' := by
  have HR0 := Aside0.mk hr0
  have HC0 := Aside0.mk hc0
  clear hr0 hc0
  have HB := Aside0.mk (Below.refl w.heap.size w)
  have H : ((some (([] : List Int) : List Int)).bind fun y101 => (if y101.length + l0.length < 140737488355328 then (some (y101 ++ l0)) else (none))) = some r := h
  clear h
  obtain ⟨y101, hy101⟩ : ∃ y_ : List Int, y_ = (([] : List Int)) := ⟨_, rfl⟩
  replace H : (if y101.length + l0.length < 140737488355328 then (some (y101 ++ l0)) else (none)) = some r := by first | (rw [hy101]; with_reducible exact H) | (have H2_ := (Option.bind_some _ _).symm.trans H; rw [hy101]; with_reducible exact H2_) | (have H2_ := (Option.bind_some _ _).symm.trans H; with_reducible exact H2_) | with_reducible exact H | (rw [hy101]; exact H) | exact H
  have Ny101 := Aside0.mk hy101
  clear hy101
  by_cases c2 : y101.length + l0.length < 140737488355328
  · rw [if_pos c2] at H
    have LMc2 := Aside0.mk c2
    clear c2
    obtain ⟨y104, hy104⟩ : ∃ y_ : List Int, y_ = (y101 ++ l0) := ⟨_, rfl⟩
    replace H : (some y104) = some r := by first | (rw [hy104]; with_reducible exact H) | (have H2_ := (Option.bind_some _ _).symm.trans H; rw [hy104]; with_reducible exact H2_) | (have H2_ := (Option.bind_some _ _).symm.trans H; with_reducible exact H2_) | with_reducible exact H | (rw [hy104]; exact H) | exact H
    have Ny104 := Aside0.mk hy104
    clear hy104
    obtain rfl := Option.some.inj H
    have hnil_ := fun (W : World) => Lib.run_eql_slice_nil (P := Try.prog) W 22 5 (some ad0_) l0.length c0 0 0 Try.underlying22
    go_enter Try.func41, Try.ntmps41
    go_wp2_with (first | ((with_reducible refine gate_dst (N := 5) rfl ?_); refine Kd.R_lit (Kd.int .u8) _ 5 ?hg (N := 5) ?hd (xs := ([] : List Int)) (inner := []) (ok := fun _ => True) (okp := fun _ => True) ?hr ?hp (fun _ hk => hk) trivial (Below.refl _ _) (Nat.le_refl _) (by simp) ?_; (case hd => rfl); (case hg => rfl); (case hr => first | (go_simp; done) | (go_simp; rfl)); (case hp => exact (Reps.none _ _)); intro v102 w3 ho4 hb hg_ hnew_; clear hg_ hnew_; (first | rw [← Ny101.out] at ho4 | (simp only [Int.reduceToNat] at ho4; rw [← Ny101.out] at ho4)); have n0_ := Aside0.mk (Kd.R_lower ho4 (below_size (by repeat (first | (with_reducible first | exact HB.out | apply below_alloc | apply pw_below_drewN | apply below_drew1) | exact HB.out)))); have n1_ := Aside0.mk (below_step (by repeat (first | (with_reducible first | exact HB.out | apply below_alloc | apply pw_below_drewN | apply below_drew1) | exact HB.out)) hb); clear HB; have HO103 := n0_; have HB := n1_; clear n0_ n1_; clear hb ho4) | ((with_reducible refine gate_builtin (b := .append) (xs := #[.tmp 5, .tmp 6]) rfl ?_); at_builtin; refine Kd.R_append_rows (Kd.int .u8) (w0 := w) w.heap.size rfl (.tmp 5) (.tmp 6) 22 5 (.int .u8 0) 1 rfl Try.underlying22 info5 rfl (by decide) (by omega) v102 y101 l0 _ _ _ (fun _ => True) (fun _ => False) rfl rfl ?aO ?aR (fun _ _ h => h) (fun _ h => h.elim) ?aF ?aB ?aS ?aL ?_; (case aR => repeat (first | exact (Kd.C_below HR0.out HB.out) | (with_reducible refine Kd.C_alloc ?_ _) | (with_reducible refine Kd.C_drewN ?_ _) | (with_reducible refine Kd.C_drew ?_))); (case aB => exact (by repeat (first | (with_reducible first | exact HB.out | apply below_alloc | apply pw_below_drewN | apply below_drew1) | exact HB.out))); (case aF => exact (fun _ _ => trivial)); (case aO => exact (by (with_reducible repeat (first | apply Kd.R_alloc | apply Kd.R_drewN | apply Kd.R_drew)); exact HO103.out)); (case aS => exact (below_size (by repeat (first | (with_reducible first | exact HB.out | apply below_alloc | apply pw_below_drewN | apply below_drew1) | exact HB.out)))); (case aL => have := LMc2.out; omega); intro v105 w5 ho hb hg hat; rw [← Ny104.out] at ho; have n0_ := Aside0.mk (hb); have n1_ := Aside0.mk (ho); clear HB; clear HO103; have HB := n0_; have HO106 := n1_; clear n0_ n1_; clear ho hb hg hat))
    go_ret
    exact ⟨_, by first | rfl | (simp [errW_none, errW_some] <;> rfl) | (simp [*, errW_none, errW_some] <;> rfl), by (with_reducible repeat (first | apply Kd.R_alloc | apply Kd.R_drewN | apply Kd.R_drew)); exact HO106.out, by repeat (first | (with_reducible first | exact HB.out | apply below_alloc | apply pw_below_drewN | apply below_drew1) | exact HB.out)⟩
  · rw [if_neg c2] at H
    exact absurd H (by simp)

set_option maxHeartbeats 8000000 in
theorem slices_Clone_byte.calls (A0 : Option Addr) (c0 : Nat) (l0 : List Int) (r : List Int) (w : World) (hr0 : Kd.C (Kd.int .u8) w A0 l0.length l0) (hc0 : l0.length ≤ c0) (h : slices_Clone_byte.f l0 = some r) :
    Calls Try.prog 41 #[.slice A0 l0.length c0] w fun e w' => ∃ v0_ : Value, e = .returned (v0_) ∧ Kd.R (Kd.int .u8) 5 w' w.heap.size (fun _ => True) v0_ r ∧ Below w.heap.size w w' := by
  cases A0 with
  | some ad0_ => exact slices_Clone_byte.calls_some ad0_ c0 l0 r w hr0 hc0 h
  | none =>
    have hl : l0 = [] := by
      cases l0 with
      | nil => rfl
      | cons x xs => obtain ⟨ad, he, _⟩ := hr0.2.2 (by simp); cases he
    subst hl
    have hr : r = [] := by
      simp [slices_Clone_byte.f] at h; first | exact h | exact h.symm
    subst hr
    have hnil_ := fun (W : World) => Lib.run_eql_slice_nil (P := Try.prog) W 22 5 none 0 c0 0 0 Try.underlying22
    clear hr0 hc0 h
    go_enter Try.func41, Try.ntmps41
    go_wp2
    go_ret
    exact ⟨_, rfl, Kd.R_nil _ _ _ _ _, Below.refl _ _⟩

end Go.Proofs.Ytjmkpcnekghmhaa.PAll
end
section
namespace Go.Proofs.Ytjmkpcnekghmhaa.PAll
open Go.RowKit Go.Proofs.YtjmkpcnekghmhaaW.PrintWords Go.Proofs.YtjmkpcnekghmhaaW.PrintLast Go.Proofs.YtjmkpcnekghmhaaW.PrintMore
attribute [local go_sem] max2_int min2_int max_two min_two max_three min_three max_four min_four   -- for this text's walks alone
set_option linter.unusedVariables false
set_option linter.unusedSimpArgs false

theorem C_same {α : Type} {enc : α → Value} {h1 : ∀ x, (enc x).oneCell' = true} {w w1 : World} {A : Option Addr} {n : Nat} {xs : List α} (h : (Kd.scalar enc h1).C w A n xs) (hm : ∀ ad, A = some ad → w1.heap[ad.block]? = w.heap[ad.block]?) : (Kd.scalar enc h1).C w1 A n xs := by
  obtain ⟨h2, h3, h4⟩ := h
  refine ⟨h2, h3, fun hp => ?_⟩
  obtain ⟨ad, rfl, hr⟩ := h4 hp
  refine ⟨ad, rfl, fun j p hj => ?_⟩
  obtain ⟨c, hc1, hc2, hc3⟩ := hr j p hj
  refine ⟨c, hc1, hc2, fun i u hu => ?_⟩
  rw [World.cell?_of_block (w := w) (by rw [add_block]; exact hm ad rfl)]
  exact hc3 i u hu
structure Rdr (base p : Nat) (xs : List Int) (bad : Bool) (W : World) : Prop where
  ex : ∃ A c, W.heap[p]? = some (.cells #[.slice A xs.length c, .bool bad] 82 (0, 0)) ∧ xs.length ≤ c ∧ c ≤ 9223372036854775807 ∧ Kd.C (Kd.int .u8) W A xs.length xs ∧ ∀ ad, A = some ad → base ≤ ad.block ∧ ad.block < p
  by_ : ∀ x ∈ xs, 0 ≤ x ∧ x ≤ 255
theorem Rdr.step {base p : Nat} {xs : List Int} {bad : Bool} {W W1 : World} (h : Rdr base p xs bad W) (hm : ∀ k, k < W.heap.size → base ≤ k → W1.heap[k]? = W.heap[k]?) (hb : base ≤ p) : Rdr base p xs bad W1 := by
  obtain ⟨A, c, h1, h2, h3, h4, h5⟩ := h.ex
  have hp := blk_lt h1
  exact ⟨⟨A, c, (hm p hp hb).trans h1, h2, h3, C_same h4 (fun ad ha => hm _ (by have := (h5 ad ha).2; omega) (h5 ad ha).1), h5⟩, h.by_⟩
theorem Rdr.below {base p : Nat} {xs : List Int} {bad : Bool} {W W1 : World} (h : Rdr base p xs bad W) (hb : Below W.heap.size W W1) : Rdr base p xs bad W1 := by
  obtain ⟨A, c, h1, h2, h3, h4, h5⟩ := h.ex
  exact ⟨⟨A, c, blk_below h1 hb, h2, h3, Kd.C_below h4 hb, h5⟩, h.by_⟩
def PutAt (p : Nat) (W W1 : World) : Prop := ∃ (j : Nat) (v : Value), W1 = W.setCell ⟨p, j, none⟩ v
def Puts (p : Nat) (W W1 : World) : Prop := ∀ B, B ≤ p → (∀ w0 : World, Below B w0 W → Below B w0 W1) ∧ W1.heap.size = W.heap.size ∧ ∀ k, k ≠ p → W1.heap[k]? = W.heap[k]?
theorem Puts.refl (p : Nat) (W : World) : Puts p W W := fun B hB => ⟨fun _ h => h, rfl, fun _ _ => rfl⟩
theorem Puts.set {p : Nat} {W W1 : World} (h : Puts p W W1) (j : Nat) (v : Value) : Puts p W (W1.setCell ⟨p, j, none⟩ v) := fun B hB => by
  obtain ⟨h1, h2, h3⟩ := h B hB
  exact ⟨fun w0 hw => (h1 w0 hw).setCell hB _, by simpa using h2, fun k hk => (Below.heap_setCell _ _ v k hk).trans (h3 k hk)⟩
theorem Puts.trans {p : Nat} {W W1 W2 : World} (h : Puts p W W1) (k : Puts p W1 W2) : Puts p W W2 := fun B hB => by
  obtain ⟨h1, h2, h3⟩ := h B hB
  obtain ⟨k1, k2, k3⟩ := k B hB
  exact ⟨fun w0 hw => k1 w0 (h1 w0 hw), k2.trans h2, fun q hq => (k3 q hq).trans (h3 q hq)⟩
theorem Puts.below {p : Nat} {w0 W W1 : World} (h : Puts p W W1) (hp : w0.heap.size ≤ p) (hb : Below w0.heap.size w0 W) : Below w0.heap.size w0 W1 := (h _ hp).1 w0 hb
set_option maxHeartbeats 4000000 in
theorem take_bad {base p : Nat} {xs : List Int} (n : Int) (W : World) (h : Rdr base p xs true W) : Calls Try.prog 43 #[.pointer (some ⟨p, 0, none⟩), .int .i64 n] W fun e W' => e = .returned (.slice none 0 0) ∧ Rdr base p xs true W' ∧ Puts p W W' := by
  have HH := Aside0.mk h
  obtain ⟨A, c, h1, h2, h3, h4, h5⟩ := h.ex
  have hb1 : W.cell? ⟨p, 1, none⟩ = some (.bool true) := (blk_cell h1 1).trans rfl
  have hf1 := blk_frozen h1 1
  have B1 := Aside0.mk h1
  have B2 := Aside0.mk h2
  have B3 := Aside0.mk h3
  have B4 := Aside0.mk h4
  have B5 := Aside0.mk h5
  clear h h1 h2 h3 h4 h5
  go_enter Try.func43, Try.ntmps43
  go_wp2
  go_ret
  exact ⟨rfl, ⟨⟨A, c, blk_put B1.out 1 _ rfl, B2.out, B3.out, C_same B4.out (fun ad ha => Below.heap_setCell _ _ _ _ (by have := (B5.out ad ha).2; show ad.block ≠ p; omega)), B5.out⟩, HH.out.by_⟩, Puts.set (Puts.refl _ _) 1 _⟩
set_option maxHeartbeats 4000000 in
theorem take_over {base p : Nat} {xs : List Int} (n : Int) (W : World) (h : Rdr base p xs false W) (hn : (xs.length : Int) < n) : Calls Try.prog 43 #[.pointer (some ⟨p, 0, none⟩), .int .i64 n] W fun e W' => e = .returned (.slice none 0 0) ∧ Rdr base p xs true W' ∧ Puts p W W' := by
  have HH := Aside0.mk h
  obtain ⟨A, c, h1, h2, h3, h4, h5⟩ := h.ex
  have hb0 : W.cell? ⟨p, 0, none⟩ = some (.slice A xs.length c) := (blk_cell h1 0).trans rfl
  have hb1 : W.cell? ⟨p, 1, none⟩ = some (.bool false) := (blk_cell h1 1).trans rfl
  have hf1 := blk_frozen h1 1
  have d1 : decide ((xs.length : Int) < n) = true := decide_eq_true hn
  have B1 := Aside0.mk h1
  have B2 := Aside0.mk h2
  have B3 := Aside0.mk h3
  have B4 := Aside0.mk h4
  have B5 := Aside0.mk h5
  clear h h1 h2 h3 h4 h5 hn
  go_enter Try.func43, Try.ntmps43
  go_wp2
  go_ret
  exact ⟨rfl, ⟨⟨A, c, blk_put B1.out 1 _ rfl, B2.out, B3.out, C_same B4.out (fun ad ha => Below.heap_setCell _ _ _ _ (by have := (B5.out ad ha).2; show ad.block ≠ p; omega)), B5.out⟩, HH.out.by_⟩, Puts.set (Puts.refl _ _) 1 _⟩
set_option maxHeartbeats 4000000 in
theorem take_ok {base p : Nat} {xs : List Int} (n : Nat) (W : World) (h : Rdr base p xs false W) (hn : n ≤ xs.length) : Calls Try.prog 43 #[.pointer (some ⟨p, 0, none⟩), .int .i64 n] W fun e W' => ∃ A c, e = .returned (.slice A n c) ∧ n ≤ c ∧ Kd.C (Kd.int .u8) W' A n (xs.take n) ∧ Rdr base p (xs.drop n) false W' ∧ Puts p W W' := by
  have HH := Aside0.mk h
  obtain ⟨A, c, h1, h2, h3, h4, h5⟩ := h.ex
  have hb0 : W.cell? ⟨p, 0, none⟩ = some (.slice A xs.length c) := (blk_cell h1 0).trans rfl
  have hb1 : W.cell? ⟨p, 1, none⟩ = some (.bool false) := (blk_cell h1 1).trans rfl
  have hf0 := blk_frozen h1 0
  have d1 : decide ((xs.length : Int) < (n : Int)) = false := decide_eq_false (by omega)
  have d2 : decide (xs.length < n) = false := decide_eq_false (by omega)
  obtain ⟨i0, hi0, _, hsz0, _⟩ := info_parts info5
  have hcut1 := cut_to (P := Try.prog) 22 5 .i64 Try.underlying22 hi0 A xs.length c (n : Int) (by omega) (by omega) h2
  have hcut2 := cut_from (P := Try.prog) 22 5 .i64 Try.underlying22 hi0 1 hsz0 A xs.length c (n : Int) (by omega) (by omega)
  rw [show ((n : Int)).toNat = n by omega] at hcut1 hcut2
  have B4 := Aside0.mk (show (Kd.int .u8).C W A n (xs.take n) from by have := Kd.C_take h4 hn; rwa [List.length_take, Nat.min_eq_left hn] at this)
  have B6 := Aside0.mk (Kd.C_drop h4 hn h2)
  have B7 : Aside0 (∀ ad, (if c = n then A else A.map (·.add (n * 1))) = some ad → base ≤ ad.block ∧ ad.block < p) := ⟨by
    intro ad ha
    by_cases hc : c = n
    · rw [if_pos hc] at ha; exact h5 ad ha
    · rw [if_neg hc] at ha
      cases hA : A with
      | none => rw [hA] at ha; cases ha
      | some a0 =>
        rw [hA] at ha
        obtain rfl : a0.add (n * 1) = ad := by simpa using ha
        rw [add_block]
        exact h5 a0 hA⟩
  change Aside0 ((Kd.int .u8).C W (if c = n then A else A.map (·.add (n * 1))) (xs.drop n).length (xs.drop n)) at B6
  obtain ⟨A2, hA2⟩ : ∃ A2, (if c = n then A else A.map (·.add (n * 1))) = A2 := ⟨_, rfl⟩
  rw [hA2] at hcut2 B6 B7
  have B1 := Aside0.mk h1
  have B2 := Aside0.mk h2
  have B3 := Aside0.mk h3
  have B5 := Aside0.mk h5
  have HN := Aside0.mk hn
  clear h h1 h2 h3 h4 h5 hi0 hsz0 hn hA2
  go_enter Try.func43, Try.ntmps43
  go_wp2
  go_ret
  refine ⟨A, c, rfl, by have := HN.out; have := B2.out; omega, C_same B4.out (fun ad ha => Below.heap_setCell _ _ _ _ (by have := (B5.out ad ha).2; show ad.block ≠ p; omega)), ⟨⟨A2, c - n, ?_, by have := B2.out; simp; omega, by have := B3.out; omega, C_same B6.out (fun ad ha => Below.heap_setCell _ _ _ _ (by have := (B7.out ad ha).2; show ad.block ≠ p; omega)), B7.out⟩, fun x hx => HH.out.by_ x (List.mem_of_mem_drop hx)⟩, Puts.set (Puts.refl _ _) 0 _⟩
  rw [List.length_drop]
  exact blk_put B1.out 0 _ rfl
def numS : List Int → Int → Int
  | [], n => n
  | c :: r, n => numS r (Go.bits .or .i64 (wrap64 (n * 256)) c)
set_option maxHeartbeats 4000000 in
theorem number_bad {base p : Nat} {xs : List Int} (bad : Bool) (m : Nat) (W : World) (h : Rdr base p xs bad W) (hm : bad = true ∨ xs.length < m) : Calls Try.prog 42 #[.pointer (some ⟨p, 0, none⟩), .int .i64 (m : Int)] W fun e W' => e = .returned (.int .i64 0) ∧ Rdr base p xs true W' ∧ Puts p W W' := by
  have key : Calls Try.prog 43 #[.pointer (some ⟨p, 0, none⟩), .int .i64 (m : Int)] W fun e W' => e = .returned (.slice none 0 0) ∧ Rdr base p xs true W' ∧ Puts p W W' := by
    cases bad with
    | true => exact take_bad _ W h
    | false => exact take_over _ W h (by rcases hm with h | h; cases h; omega)
  clear h hm
  go_enter Try.func42, Try.ntmps42
  go_wp2_with (go_at_call 43; (with_reducible refine key.mono ?_); rintro e w1 ⟨rfl, hr, hp⟩)
  go_loop [5, 12] (fun n i => n = .int .i64 0 ∧ i = .int .i64 0) (fun _ _ => 0)
  case atStart => exact ⟨rfl, rfl⟩
  case round =>
    obtain ⟨rfl, rfl⟩ := hrel
    go_wp2
    go_ret
    exact ⟨rfl, hr, hp⟩
set_option maxHeartbeats 4000000 in
theorem number_ok {base p : Nat} {xs : List Int} (m : Nat) (W : World) (h : Rdr base p xs false W) (hm : m ≤ xs.length) : Calls Try.prog 42 #[.pointer (some ⟨p, 0, none⟩), .int .i64 (m : Int)] W fun e W' => e = .returned (.int .i64 (numS (xs.take m) 0)) ∧ Rdr base p (xs.drop m) false W' ∧ Puts p W W' := by
  obtain ⟨ys, hys⟩ : ∃ ys, xs.take m = ys := ⟨_, rfl⟩
  have hyl : ys.length = m := by rw [← hys, List.length_take]; omega
  have hby : Aside0 (∀ y ∈ ys, 0 ≤ y ∧ y ≤ 255) := ⟨fun y hy => h.by_ y (List.mem_of_mem_take (hys ▸ hy))⟩
  have key := take_ok m W h hm
  rw [hys] at key ⊢
  subst hyl
  clear h hm hys
  go_enter Try.func42, Try.ntmps42
  go_wp2_with (go_at_call 43; (with_reducible refine key.mono ?_); rintro e w1 ⟨A, c, rfl, hc, hC, hr, hp⟩; have HC := Aside0.mk hC; have HR := Aside0.mk hr; have HP := Aside0.mk hp; have HCC := Aside0.mk hc; clear hC hr hp hc)
  go_loop [5, 12] (fun n i => ∃ (k : Nat) (a : Int), k ≤ ys.length ∧ i = .int .i64 (k : Int) ∧ n = .int .i64 a ∧ Aside0 (numS (ys.drop k) a = numS ys 0)) (fun _ i => ys.length - (intOf i).toNat)
  case atStart => exact ⟨0, 0, Nat.zero_le _, rfl, rfl, ⟨rfl⟩⟩
  case round =>
    obtain ⟨k, a, hk, rfl, rfl, ha⟩ := hrel
    by_cases hlt : k < ys.length
    · obtain ⟨ad, ead, hx⟩ := Kd.at_int HC.out (k : Int) (by omega) (by omega)
      cases ead
      rw [show ((k : Int)).toNat = k by omega] at hx
      have hb := hby.out (rd ys (k : Int)) (by simp [rd, List.getD_eq_getElem?_getD, hlt])
      have q3 : (k < ys.length) = True := eq_true hlt
      have q4 : wrap64 ((k : Int) + 1) = ((k + 1 : Nat) : Int) := by have := HC.out.2.1; unfold wrap64; omega
      have hstep : numS (ys.drop (k + 1)) (bits .or .i64 (wrap64 (a * 256)) (rd ys (k : Int))) = numS ys 0 := by
        rw [← ha.out, List.drop_eq_getElem_cons hlt]
        simp [numS, rd, List.getD_eq_getElem?_getD, hlt]
      have HS := Aside0.mk hstep
      clear hstep ha
      go_wp2
      go_round
      case rel => exact ⟨k + 1, _, by omega, by rw [q4], rfl, HS⟩
      case measure => rw [q4]; simp [intOf]; omega
    · obtain rfl : k = ys.length := by omega
      have ha2 : a = numS ys 0 := by have := ha.out; rwa [List.drop_length] at this
      subst ha2
      clear ha
      go_wp2
      go_ret
      exact ⟨rfl, HR.out, HP.out⟩
theorem or_byte (a c : Int) (h0 : 0 ≤ c) (h1 : c < 256) : bits .or .i64 (wrap64 (a * 256)) c = wrap64 (a * 256 + c) := by
  obtain ⟨m, rfl⟩ : ∃ m : Nat, c = (m : Int) := ⟨c.toNat, by omega⟩
  have hm : m < 2 ^ 8 := by omega
  obtain ⟨q, hq⟩ : ∃ q : Nat, (BitVec.ofInt 64 (wrap64 (a * 256))).toNat = 2 ^ 8 * q := by
    rw [BitVec.toNat_ofInt]
    refine ⟨((wrap64 (a * 256)) % 18446744073709551616 / 256).toNat, ?_⟩
    unfold wrap64
    omega
  have hq2 : ((2 ^ 8 * q : Nat) : Int) % 18446744073709551616 = (a * 256) % 18446744073709551616 := by
    rw [← hq, BitVec.toNat_ofInt]
    unfold wrap64
    omega
  have hw : ∀ x : Int, IntKind.i64.wrap x = wrap64 x := fun x => by rw [IntKind.wrap_i64]; unfold wrap64; rfl
  show IntKind.i64.wrap (((BitVec.ofInt 64 (wrap64 (a * 256)) ||| BitVec.ofInt 64 (m : Int)).toNat : Nat) : Int) = _
  rw [BitVec.toNat_or, hq, BitVec.ofInt_natCast, BitVec.toNat_ofNat, Nat.mod_eq_of_lt (show m < 2 ^ 64 by omega), ← Nat.two_pow_add_eq_or_of_lt hm, hw]
  unfold wrap64
  omega
theorem numS_two (x y : Int) (hx : 0 ≤ x ∧ x ≤ 255) (hy : 0 ≤ y ∧ y ≤ 255) : numS [x, y] 0 = x * 256 + y := by
  simp only [numS]
  rw [or_byte 0 x hx.1 (by omega), or_byte _ y hy.1 (by omega)]
  unfold wrap64
  omega
theorem take_two {xs : List Int} (h : 2 ≤ xs.length) : xs.take 2 = [xs.getD 0 0, xs.getD 1 0] := by
  match xs, h with
  | a :: b :: r, _ => rfl
theorem numS_bd {xs : List Int} (h : 2 ≤ xs.length) (hb : ∀ x ∈ xs, 0 ≤ x ∧ x ≤ 255) : 0 ≤ numS (xs.take 2) 0 ∧ numS (xs.take 2) 0 ≤ 65535 := by
  rw [take_two h]
  match xs, h with
  | a :: b :: r, _ =>
    have ha := hb a (by simp)
    have hb' := hb b (by simp)
    show 0 ≤ numS [a, b] 0 ∧ numS [a, b] 0 ≤ 65535
    rw [numS_two a b ha hb']
    omega
def rInt (s : List Int × Bool) : Int × (List Int × Bool) := if s.2 = true ∨ s.1.length < 8 then (0, (s.1, true)) else (numS (s.1.take 8) 0, (s.1.drop 8, false))
def rText (s : List Int × Bool) (m : Int) : List Int × (List Int × Bool) := if s.2 = true ∨ s.1.length < 2 then ([], (s.1, true)) else (if numS (s.1.take 2) 0 > m ∨ ((s.1.length - 2 : Nat) : Int) < numS (s.1.take 2) 0 then ([], (s.1.drop 2, true)) else ((s.1.drop 2).take (numS (s.1.take 2) 0).toNat, ((s.1.drop 2).drop (numS (s.1.take 2) 0).toNat, false)))
def rEnd (s : List Int × Bool) : Bool := !s.2 && s.1.length == 0
set_option maxHeartbeats 4000000 in
theorem int_f {base p : Nat} (s : List Int × Bool) (W : World) (h : Rdr base p s.1 s.2 W) : Calls Try.prog 25 #[.pointer (some ⟨p, 0, none⟩)] W fun e W' => e = .returned (.int .i64 (rInt s).1) ∧ Rdr base p (rInt s).2.1 (rInt s).2.2 W' ∧ Puts p W W' := by
  obtain ⟨xs, bad⟩ := s
  have key : Calls Try.prog 42 #[.pointer (some ⟨p, 0, none⟩), .int .i64 8] W fun e W' => e = .returned (.int .i64 (rInt (xs, bad)).1) ∧ Rdr base p (rInt (xs, bad)).2.1 (rInt (xs, bad)).2.2 W' ∧ Puts p W W' := by
    unfold rInt
    by_cases c : bad = true ∨ xs.length < 8
    · rw [if_pos c]; exact number_bad bad 8 W h c
    · rw [if_neg c]
      obtain rfl : bad = false := by simpa using (not_or.1 c).1
      exact number_ok 8 W h (by have c2 := (not_or.1 c).2; simp at c2; omega)
  obtain ⟨n, hn⟩ : ∃ n, n = (rInt (xs, bad)).1 := ⟨_, rfl⟩
  obtain ⟨t, ht⟩ : ∃ t, t = (rInt (xs, bad)).2 := ⟨_, rfl⟩
  rw [← hn, ← ht] at key ⊢
  clear h hn ht
  go_enter Try.func25, Try.ntmps25
  go_wp2_with (go_at_call 42; (with_reducible refine key.mono ?_); rintro e w1 ⟨rfl, hr, hp⟩)
  go_ret
  exact ⟨rfl, hr, hp⟩
set_option maxHeartbeats 4000000 in
theorem end_f {base p : Nat} (s : List Int × Bool) (W : World) (h : Rdr base p s.1 s.2 W) : Calls Try.prog 26 #[.pointer (some ⟨p, 0, none⟩)] W fun e W' => e = .returned (.bool (rEnd s)) ∧ W' = W := by
  obtain ⟨xs, bad⟩ := s
  obtain ⟨A, c, h1, h2, h3, h4, h5⟩ := h.ex
  have hb0 : W.cell? ⟨p, 0, none⟩ = some (.slice A xs.length c) := (blk_cell h1 0).trans rfl
  have hb1 : W.cell? ⟨p, 1, none⟩ = some (.bool bad) := (blk_cell h1 1).trans rfl
  clear h h1 h2 h3 h4 h5
  cases bad with
  | true =>
    go_enter Try.func26, Try.ntmps26
    go_wp2
    go_ret
    exact ⟨rfl, rfl⟩
  | false =>
    by_cases hx : xs.length = 0
    · have d1 : ((xs.length : Int) == 0) = true := by simp [hx]
      have e1 : rEnd (xs, false) = true := by simp [rEnd, hx]
      rw [e1]
      have H := Aside0.mk d1
      clear e1 d1
      rw [hx] at hb0
      clear hx
      go_enter Try.func26, Try.ntmps26
      go_wp2
      go_ret
      exact ⟨rfl, rfl⟩
    · have d1 : ((xs.length : Int) == 0) = false := beq_eq_false_iff_ne.mpr (by omega)
      have d2 : (xs.length == 0) = false := beq_eq_false_iff_ne.mpr hx
      have d3 : ¬ xs = [] := fun e => hx (by rw [e]; rfl)
      have e1 : rEnd (xs, false) = false := by simp [rEnd, d3]
      rw [e1]
      clear e1 hx
      go_enter Try.func26, Try.ntmps26
      go_wp2
      go_ret
      exact ⟨rfl, rfl⟩
theorem Rdr.setBad {base p : Nat} {xs : List Int} {b : Bool} {W : World} (h : Rdr base p xs b W) : Rdr base p xs true (W.setCell ⟨p, 1, none⟩ (.bool true)) := by
  obtain ⟨A, c, h1, h2, h3, h4, h5⟩ := h.ex
  exact ⟨⟨A, c, blk_put h1 1 _ rfl, h2, h3, C_same h4 (fun ad ha => Below.heap_setCell _ _ _ _ (by have := (h5 ad ha).2; show ad.block ≠ p; omega)), h5⟩, h.by_⟩
theorem Rdr.flag {base p : Nat} {xs : List Int} {b : Bool} {W : World} (h : Rdr base p xs b W) : W.cell? ⟨p, 1, none⟩ = some (.bool b) ∧ W.frozen? ⟨p, 1, none⟩ = false := by
  obtain ⟨A, c, h1, h2, h3, h4, h5⟩ := h.ex
  exact ⟨(blk_cell h1 1).trans rfl, blk_frozen h1 1⟩
theorem conv_nil (W : World) : (convert 22 9 (.slice none 0 0)).run Try.prog W = .ok (.string (strOfNums [])) W :=
  Kd.C_string (P := Try.prog) (w := W) (A := none) (n := 0) (c := 0) Try.underlying22 Try.underlying5 Try.underlying9 (xs := []) ⟨rfl, by omega, fun h => absurd h (by omega)⟩
set_option maxHeartbeats 8000000 in
theorem text_f {base p : Nat} (s : List Int × Bool) (m : Int) (W : World) (h : Rdr base p s.1 s.2 W) : Calls Try.prog 23 #[.pointer (some ⟨p, 0, none⟩), .int .i64 m] W fun e W' => e = .returned (.string (strOfNums (rText s m).1)) ∧ Rdr base p (rText s m).2.1 (rText s m).2.2 W' ∧ Puts p W W' := by
  obtain ⟨xs, bad⟩ := s
  have hcn := conv_nil
  unfold rText
  by_cases c : bad = true ∨ xs.length < 2
  · rw [if_pos c]
    have key : Calls Try.prog 42 #[.pointer (some ⟨p, 0, none⟩), .int .i64 2] W fun e W' => e = .returned (.int .i64 0) ∧ Rdr base p xs true W' ∧ Puts p W W' := number_bad bad 2 W h c
    clear h c
    by_cases c : (0 : Int) > m
    · have c1 : decide (m < 0) = true := decide_eq_true c
      clear c
      go_enter Try.func23, Try.ntmps23
      go_wp2_with (first | (go_at_call 42; (with_reducible refine key.mono ?_); rintro e w1 ⟨rfl, hr, hp⟩; have HR := Aside0.mk hr.setBad; have HP := Aside0.mk (hp.set 1 (.bool true)); obtain ⟨f1, f2⟩ := hr.flag; clear hr hp) | (go_at_call 43; (with_reducible refine (take_bad _ _ HR.out).mono ?_); rintro e w2 ⟨rfl, hr, hp⟩; have HP2 := Aside0.mk (HP.out.trans hp); clear hp))
      go_ret
      exact ⟨rfl, hr, HP2.out⟩
    · have c1 : decide (m < 0) = false := decide_eq_false c
      clear c
      go_enter Try.func23, Try.ntmps23
      go_wp2_with (first | (go_at_call 42; (with_reducible refine key.mono ?_); rintro e w1 ⟨rfl, hr, hp⟩; have HR := Aside0.mk hr; have HP := Aside0.mk hp; clear hr hp) | (go_at_call 43; (with_reducible refine (take_bad _ _ HR.out).mono ?_); rintro e w2 ⟨rfl, hr, hp⟩; have HP2 := Aside0.mk (HP.out.trans hp); clear hp))
      go_ret
      exact ⟨rfl, hr, HP2.out⟩
  · rw [if_neg c]
    obtain rfl : bad = false := by simpa using (not_or.1 c).1
    have hl : 2 ≤ xs.length := by have c2 := (not_or.1 c).2; simp at c2; omega
    have key : Calls Try.prog 42 #[.pointer (some ⟨p, 0, none⟩), .int .i64 2] W fun e W' => e = .returned (.int .i64 (numS (xs.take 2) 0)) ∧ Rdr base p (xs.drop 2) false W' ∧ Puts p W W' := number_ok 2 W h hl
    have hbd := numS_bd hl h.by_
    dsimp only
    obtain ⟨n, hn⟩ : ∃ n : Nat, numS (xs.take 2) 0 = (n : Int) := ⟨(numS (xs.take 2) 0).toNat, by omega⟩
    obtain ⟨ys, hys⟩ : ∃ ys, xs.drop 2 = ys := ⟨_, rfl⟩
    have hyl : xs.length - 2 = ys.length := by rw [← hys, List.length_drop]
    rw [hn, hys] at key
    rw [hn, hys, hyl, show ((n : Int)).toNat = n by omega]
    clear h c hl hn hys hyl hbd
    by_cases c : (n : Int) > m
    · rw [if_pos (Or.inl c)]
      have c1 : decide (m < (n : Int)) = true := decide_eq_true c
      clear c
      go_enter Try.func23, Try.ntmps23
      go_wp2_with (first | (go_at_call 42; (with_reducible refine key.mono ?_); rintro e w1 ⟨rfl, hr, hp⟩; have HR := Aside0.mk hr.setBad; have HP := Aside0.mk (hp.set 1 (.bool true)); obtain ⟨f1, f2⟩ := hr.flag; clear hr hp) | (go_at_call 43; (with_reducible refine (take_bad _ _ HR.out).mono ?_); rintro e w2 ⟨rfl, hr, hp⟩; have HP2 := Aside0.mk (HP.out.trans hp); clear hp))
      go_ret
      exact ⟨rfl, hr, HP2.out⟩
    · have c1 : decide (m < (n : Int)) = false := decide_eq_false c
      by_cases c2 : (ys.length : Int) < (n : Int)
      · rw [if_pos (Or.inr c2)]
        have C2 := Aside0.mk c2
        clear c c2
        go_enter Try.func23, Try.ntmps23
        go_wp2_with (first | (go_at_call 42; (with_reducible refine key.mono ?_); rintro e w1 ⟨rfl, hr, hp⟩; have HR := Aside0.mk hr; have HP := Aside0.mk hp; clear hr hp) | (go_at_call 43; (with_reducible refine (take_over _ _ HR.out C2.out).mono ?_); rintro e w2 ⟨rfl, hr, hp⟩; have HP2 := Aside0.mk (HP.out.trans hp); clear hp))
        go_ret
        exact ⟨rfl, hr, HP2.out⟩
      · rw [if_neg (not_or.2 ⟨c, c2⟩)]
        have C2 : Aside0 (n ≤ ys.length) := ⟨by omega⟩
        clear c c2
        go_enter Try.func23, Try.ntmps23
        go_wp2_with (first | (go_at_call 42; (with_reducible refine key.mono ?_); rintro e w1 ⟨rfl, hr, hp⟩; have HR := Aside0.mk hr; have HP := Aside0.mk hp; clear hr hp) | (go_at_call 43; (with_reducible refine (take_ok _ _ HR.out C2.out).mono ?_); rintro e w2 ⟨A, c, rfl, hc, hC, hr, hp⟩; have HP2 := Aside0.mk (HP.out.trans hp); have HR2 := Aside0.mk hr; have hcv := Kd.C_string (P := Try.prog) (A := A) (c := c) Try.underlying22 Try.underlying5 Try.underlying9 hC; clear hp hr hc hC))
        go_ret
        exact ⟨rfl, HR2.out, HP2.out⟩
set_option maxHeartbeats 4000000 in
theorem new_f (A : Option Addr) (c : Nat) (l : List Int) (w : World) (hC : Kd.C (Kd.int .u8) w A l.length l) (hc : l.length ≤ c) (hb : ∀ x ∈ l, 0 ≤ x ∧ x ≤ 255) (hn : l.length < 140737488355328) :
    Calls Try.prog 21 #[.slice A l.length c] w fun e w' => ∃ p, e = .returned (.pointer (some ⟨p, 0, none⟩)) ∧ w.heap.size ≤ p ∧ Rdr w.heap.size p l false w' ∧ Below w.heap.size w w' := by
  have HC := Aside0.mk hC
  have HCC := Aside0.mk hc
  have HB := Aside0.mk hb
  have HF : Aside0 (slices_Clone_byte.f l = some l) := ⟨by unfold slices_Clone_byte.f; simp only [Option.bind_some]; rw [if_pos (by simp; omega)]; rfl⟩
  clear hC hc hb hn
  go_enter Try.func21, Try.ntmps21
  go_wp2_with (go_at_call 41; (with_reducible refine (slices_Clone_byte.calls A c l l w HC.out HCC.out HF.out).mono ?_); rintro e w1 ⟨v, rfl, ho, hbl⟩; have HO := Aside0.mk ho; have HBL := Aside0.mk hbl; obtain ⟨A1, c1, e1, h1, h2⟩ := Kd.R_reads ho; subst e1; have HR1 := Aside0.mk h1; have HR2 := Aside0.mk h2; clear ho hbl h1 h2)
  go_ret
  refine ⟨w1.heap.size, rfl, HBL.out.size, ⟨⟨A1, c1, heap_alloc_new w1 _, HR1.out, ?_, Kd.C_below HR2.out (below_alloc (Below.refl _ _) _), ?_⟩, HB.out⟩, below_alloc HBL.out _⟩
  · obtain ⟨_, inner, hown, _⟩ := HO.out
    rcases hown.2 with ⟨e, _⟩ | ⟨g, cap, cur, e, _, _, _, hm, _⟩
    · injection e with e1 e2 e3; omega
    · injection e with e1 e2 e3; unfold maxLen at hm; omega
  · intro ad ha
    have hk : (Value.slice A1 l.length c1).ownBlock = some ad.block := by rw [ha]; rfl
    exact ⟨Kd.R_base HO.out _ hk, Kd.R_lt HO.out _ hk⟩
end Go.Proofs.Ytjmkpcnekghmhaa.PAll
end
