/- Words, plain functions and contracts of the functions that the law of this claim reaches; no conditions. -/
import Derived.Test.YtjmkpcnekghmhaaBSnapEncodes1
section
namespace Go.Proofs.Ytjmkpcnekghmhaa.PAll
open Go.RowKit Go.Proofs.YtjmkpcnekghmhaaW.PrintWords Go.Proofs.YtjmkpcnekghmhaaW.PrintLast Go.Proofs.YtjmkpcnekghmhaaW.PrintMore
attribute [local go_sem] max2_int min2_int max_two min_two max_three min_three max_four min_four   -- for this text's walks alone
set_option linter.unusedVariables false
set_option linter.unusedSimpArgs false

mutual
def snap_Encode.l0 : Nat → List Int → List (S93) → Int → Int → Int → Int → Int → List (S93) → List (S95) → List (S97) → List (S100) → List ByteArray → Option (List Int × Int)
 | 0, _, _, _, _, _, _, _, _, _, _, _, _ => none
 | k + 1, x4, x32, x33, x34, x452000, x452001, x452002, x452003, x452004, x452005, x452006, x452007 => if x34 < x33 then (if 0 ≤ x34 then (if x34 < (x32.length : Int) then ((snap_word.f x4 ((rd_T93 x32 x34).f0)).bind fun t461 => ((snap_put.f k t461 (([(rd_T93 x32 x34).f1, (rd_T93 x32 x34).f2] : List Int))).bind fun t467 => (snap_Encode.l0 k t467 x32 x33 (wrap64 (x34 + 1)) x452000 x452001 x452002 x452003 x452004 x452005 x452006 x452007))) else (none)) else (none)) else ((snap_put.f k x4 (([(x452004.length : Int)] : List Int))).bind fun t473 => (snap_Encode.l1 k t473 x452004 (x452004.length : Int) 0 x452000 x452001 x452002 x452003 x452004 x452005 x452006 x452007))
def snap_Encode.l1 : Nat → List Int → List (S95) → Int → Int → Int → Int → Int → List (S93) → List (S95) → List (S97) → List (S100) → List ByteArray → Option (List Int × Int)
 | 0, _, _, _, _, _, _, _, _, _, _, _, _ => none
 | k + 1, x4, x57, x58, x59, x452000, x452001, x452002, x452003, x452004, x452005, x452006, x452007 => if x59 < x58 then (if 0 ≤ x59 then (if x59 < (x57.length : Int) then ((snap_put.f k x4 (([(rd_T95 x57 x59).f0, (rd_T95 x57 x59).f1, (rd_T95 x57 x59).f2, (rd_T95 x57 x59).f3, (rd_T95 x57 x59).f4, (rd_T95 x57 x59).f5] : List Int))).bind fun t481 => (snap_Encode.l1 k t481 x57 x58 (wrap64 (x59 + 1)) x452000 x452001 x452002 x452003 x452004 x452005 x452006 x452007)) else (none)) else (none)) else ((snap_put.f k x4 (([(x452005.length : Int)] : List Int))).bind fun t487 => (snap_Encode.l2 k t487 x452005 (x452005.length : Int) 0 x452000 x452001 x452002 x452003 x452004 x452005 x452006 x452007))
def snap_Encode.l2 : Nat → List Int → List (S97) → Int → Int → Int → Int → Int → List (S93) → List (S95) → List (S97) → List (S100) → List ByteArray → Option (List Int × Int)
 | 0, _, _, _, _, _, _, _, _, _, _, _, _ => none
 | k + 1, x4, x86, x87, x88, x452000, x452001, x452002, x452003, x452004, x452005, x452006, x452007 => if x88 < x87 then (if 0 ≤ x88 then (if x88 < (x86.length : Int) then ((snap_put.f k x4 (([(rd_T97 x86 x88).f0, (rd_T97 x86 x88).f1, (rd_T97 x86 x88).f2] : List Int))).bind fun t495 => (snap_Encode.l2 k t495 x86 x87 (wrap64 (x88 + 1)) x452000 x452001 x452002 x452003 x452004 x452005 x452006 x452007)) else (none)) else (none)) else ((snap_put.f k x4 (([(x452006.length : Int)] : List Int))).bind fun t501 => (snap_Encode.l3 k t501 x452006 (x452006.length : Int) 0 x452000 x452001 x452002 x452003 x452004 x452005 x452006 x452007))
def snap_Encode.l3 : Nat → List Int → List (S100) → Int → Int → Int → Int → Int → List (S93) → List (S95) → List (S97) → List (S100) → List ByteArray → Option (List Int × Int)
 | 0, _, _, _, _, _, _, _, _, _, _, _, _ => none
 | k + 1, x4, x109, x110, x111, x452000, x452001, x452002, x452003, x452004, x452005, x452006, x452007 => if x111 < x110 then (if 0 ≤ x111 then (if x111 < (x109.length : Int) then ((snap_put.f k x4 (([(rd_T100 x109 x111).f0, (rd_T100 x109 x111).f1, (rd_T100 x109 x111).f2, (rd_T100 x109 x111).f3, (rd_T100 x109 x111).f4, (rd_T100 x109 x111).f5, (rd_T100 x109 x111).f6, (rd_T100 x109 x111).f7, (rd_T100 x109 x111).f8, (rd_T100 x109 x111).f9, (rd_T100 x109 x111).f10, (((rd_T100 x109 x111).f11).length : Int)] : List Int))).bind fun t509 => (snap_Encode.l4 k t509 x109 x110 x111 ((rd_T100 x109 x111).f11) (((rd_T100 x109 x111).f11).length : Int) 0 x452000 x452001 x452002 x452003 x452004 x452005 x452006 x452007)) else (none)) else (none)) else ((snap_put.f k x4 (([(x452007.length : Int)] : List Int))).bind fun t523 => (snap_Encode.l5 k t523 x452007 (x452007.length : Int) 0))
def snap_Encode.l4 : Nat → List Int → List (S100) → Int → Int → List (S102) → Int → Int → Int → Int → Int → List (S93) → List (S95) → List (S97) → List (S100) → List ByteArray → Option (List Int × Int)
 | 0, _, _, _, _, _, _, _, _, _, _, _, _, _, _, _ => none
 | k + 1, x4, x109, x110, x111, x144, x145, x146, x452000, x452001, x452002, x452003, x452004, x452005, x452006, x452007 => if x146 < x145 then (if 0 ≤ x146 then (if x146 < (x144.length : Int) then ((snap_put.f k x4 (([(rd_T102 x144 x146).f0, (rd_T102 x144 x146).f1] : List Int))).bind fun t517 => (snap_Encode.l4 k t517 x109 x110 x111 x144 x145 (wrap64 (x146 + 1)) x452000 x452001 x452002 x452003 x452004 x452005 x452006 x452007)) else (none)) else (none)) else (snap_Encode.l3 k x4 x109 x110 (wrap64 (x111 + 1)) x452000 x452001 x452002 x452003 x452004 x452005 x452006 x452007)
def snap_Encode.l5 : Nat → List Int → List ByteArray → Int → Int → Option (List Int × Int)
 | 0, _, _, _, _ => none
 | k + 1, x4, x166, x167, x168 => if x168 < x167 then (if 0 ≤ x168 then (if x168 < (x166.length : Int) then ((snap_word.f x4 (rdOf ByteArray.empty x166 x168)).bind fun t527 => (snap_Encode.l5 k t527 x166 x167 (wrap64 (x168 + 1)))) else (none)) else (none)) else ((slices_Clip_byte.f x4).bind fun t530 => (some (t530, 0)))
end
def snap_Encode.f (k : Nat) (a0_0 : Int) (a0_1 : Int) (a0_2 : Int) (l0_3 : List (S93)) (l0_4 : List (S95)) (l0_5 : List (S97)) (l0_6 : List (S100)) (l0_7 : List ByteArray) : Option (List Int × Int) := (snap_fits.f k a0_0 a0_1 a0_2 l0_3 l0_4 l0_5 l0_6 l0_7).bind fun t452 => (if t452 = true then ((snap_put.f k ([] : List Int) (([a0_0, a0_1, a0_2, (l0_3.length : Int)] : List Int))).bind fun t456 => (snap_Encode.l0 k t456 l0_3 (l0_3.length : Int) 0 a0_0 a0_1 a0_2 l0_3 l0_4 l0_5 l0_6 l0_7)) else (some (([] : List Int), 3)))
theorem snap_Encode.mono_l : ∀ k, (∀ y0 y1 y2 y3 y4 y5 y6 y7 y8 y9 y10 y11, LeO (snap_Encode.l0 k y0 y1 y2 y3 y4 y5 y6 y7 y8 y9 y10 y11) (snap_Encode.l0 (k + 1) y0 y1 y2 y3 y4 y5 y6 y7 y8 y9 y10 y11)) ∧ (∀ y0 y1 y2 y3 y4 y5 y6 y7 y8 y9 y10 y11, LeO (snap_Encode.l1 k y0 y1 y2 y3 y4 y5 y6 y7 y8 y9 y10 y11) (snap_Encode.l1 (k + 1) y0 y1 y2 y3 y4 y5 y6 y7 y8 y9 y10 y11)) ∧ (∀ y0 y1 y2 y3 y4 y5 y6 y7 y8 y9 y10 y11, LeO (snap_Encode.l2 k y0 y1 y2 y3 y4 y5 y6 y7 y8 y9 y10 y11) (snap_Encode.l2 (k + 1) y0 y1 y2 y3 y4 y5 y6 y7 y8 y9 y10 y11)) ∧ (∀ y0 y1 y2 y3 y4 y5 y6 y7 y8 y9 y10 y11, LeO (snap_Encode.l3 k y0 y1 y2 y3 y4 y5 y6 y7 y8 y9 y10 y11) (snap_Encode.l3 (k + 1) y0 y1 y2 y3 y4 y5 y6 y7 y8 y9 y10 y11)) ∧ (∀ y0 y1 y2 y3 y4 y5 y6 y7 y8 y9 y10 y11 y12 y13 y14, LeO (snap_Encode.l4 k y0 y1 y2 y3 y4 y5 y6 y7 y8 y9 y10 y11 y12 y13 y14) (snap_Encode.l4 (k + 1) y0 y1 y2 y3 y4 y5 y6 y7 y8 y9 y10 y11 y12 y13 y14)) ∧ (∀ y0 y1 y2 y3, LeO (snap_Encode.l5 k y0 y1 y2 y3) (snap_Encode.l5 (k + 1) y0 y1 y2 y3))
 | 0 => ⟨fun _ _ _ _ _ _ _ _ _ _ _ _ r h => by simp [snap_Encode.l0] at h, fun _ _ _ _ _ _ _ _ _ _ _ _ r h => by simp [snap_Encode.l1] at h, fun _ _ _ _ _ _ _ _ _ _ _ _ r h => by simp [snap_Encode.l2] at h, fun _ _ _ _ _ _ _ _ _ _ _ _ r h => by simp [snap_Encode.l3] at h, fun _ _ _ _ _ _ _ _ _ _ _ _ _ _ _ r h => by simp [snap_Encode.l4] at h, fun _ _ _ _ r h => by simp [snap_Encode.l5] at h⟩
 | k + 1 => by
  obtain ⟨ih0, ih1, ih2, ih3, ih4, ih5⟩ := snap_Encode.mono_l k
  refine ⟨?_, ?_, ?_, ?_, ?_, ?_⟩
  ·intro y0 y1 y2 y3 y4 y5 y6 y7 y8 y9 y10 y11
   unfold snap_Encode.l0
   repeat' first
   | (with_reducible exact ih0 _ _ _ _ _ _ _ _ _ _ _ _)
   | (with_reducible exact ih1 _ _ _ _ _ _ _ _ _ _ _ _)
   | (with_reducible exact ih2 _ _ _ _ _ _ _ _ _ _ _ _)
   | (with_reducible exact ih3 _ _ _ _ _ _ _ _ _ _ _ _)
   | (with_reducible exact ih4 _ _ _ _ _ _ _ _ _ _ _ _ _ _ _)
   | (with_reducible exact ih5 _ _ _ _)
   | (with_reducible exact snap_fits.mono _ _ _ _ _ _ _ _ _)
   | (with_reducible exact snap_put.mono _ _ _)
   | (with_reducible exact LeO.refl _)
   | (with_reducible exact LeO.none _)
   | (with_reducible refine LeO.ite ?_ ?_)
   | (with_reducible refine LeO.bind ?_ (fun _ => ?_))
   | exact ih0 _ _ _ _ _ _ _ _ _ _ _ _
   | exact ih1 _ _ _ _ _ _ _ _ _ _ _ _
   | exact ih2 _ _ _ _ _ _ _ _ _ _ _ _
   | exact ih3 _ _ _ _ _ _ _ _ _ _ _ _
   | exact ih4 _ _ _ _ _ _ _ _ _ _ _ _ _ _ _
   | exact ih5 _ _ _ _
   | exact snap_fits.mono _ _ _ _ _ _ _ _ _
   | exact snap_put.mono _ _ _
   | exact LeO.none _
   | refine LeO.ite ?_ ?_
   | refine LeO.bind ?_ (fun _ => ?_)
  ·intro y0 y1 y2 y3 y4 y5 y6 y7 y8 y9 y10 y11
   unfold snap_Encode.l1
   repeat' first
   | (with_reducible exact ih0 _ _ _ _ _ _ _ _ _ _ _ _)
   | (with_reducible exact ih1 _ _ _ _ _ _ _ _ _ _ _ _)
   | (with_reducible exact ih2 _ _ _ _ _ _ _ _ _ _ _ _)
   | (with_reducible exact ih3 _ _ _ _ _ _ _ _ _ _ _ _)
   | (with_reducible exact ih4 _ _ _ _ _ _ _ _ _ _ _ _ _ _ _)
   | (with_reducible exact ih5 _ _ _ _)
   | (with_reducible exact snap_fits.mono _ _ _ _ _ _ _ _ _)
   | (with_reducible exact snap_put.mono _ _ _)
   | (with_reducible exact LeO.refl _)
   | (with_reducible exact LeO.none _)
   | (with_reducible refine LeO.ite ?_ ?_)
   | (with_reducible refine LeO.bind ?_ (fun _ => ?_))
   | exact ih0 _ _ _ _ _ _ _ _ _ _ _ _
   | exact ih1 _ _ _ _ _ _ _ _ _ _ _ _
   | exact ih2 _ _ _ _ _ _ _ _ _ _ _ _
   | exact ih3 _ _ _ _ _ _ _ _ _ _ _ _
   | exact ih4 _ _ _ _ _ _ _ _ _ _ _ _ _ _ _
   | exact ih5 _ _ _ _
   | exact snap_fits.mono _ _ _ _ _ _ _ _ _
   | exact snap_put.mono _ _ _
   | exact LeO.none _
   | refine LeO.ite ?_ ?_
   | refine LeO.bind ?_ (fun _ => ?_)
  ·intro y0 y1 y2 y3 y4 y5 y6 y7 y8 y9 y10 y11
   unfold snap_Encode.l2
   repeat' first
   | (with_reducible exact ih0 _ _ _ _ _ _ _ _ _ _ _ _)
   | (with_reducible exact ih1 _ _ _ _ _ _ _ _ _ _ _ _)
   | (with_reducible exact ih2 _ _ _ _ _ _ _ _ _ _ _ _)
   | (with_reducible exact ih3 _ _ _ _ _ _ _ _ _ _ _ _)
   | (with_reducible exact ih4 _ _ _ _ _ _ _ _ _ _ _ _ _ _ _)
   | (with_reducible exact ih5 _ _ _ _)
   | (with_reducible exact snap_fits.mono _ _ _ _ _ _ _ _ _)
   | (with_reducible exact snap_put.mono _ _ _)
   | (with_reducible exact LeO.refl _)
   | (with_reducible exact LeO.none _)
   | (with_reducible refine LeO.ite ?_ ?_)
   | (with_reducible refine LeO.bind ?_ (fun _ => ?_))
   | exact ih0 _ _ _ _ _ _ _ _ _ _ _ _
   | exact ih1 _ _ _ _ _ _ _ _ _ _ _ _
   | exact ih2 _ _ _ _ _ _ _ _ _ _ _ _
   | exact ih3 _ _ _ _ _ _ _ _ _ _ _ _
   | exact ih4 _ _ _ _ _ _ _ _ _ _ _ _ _ _ _
   | exact ih5 _ _ _ _
   | exact snap_fits.mono _ _ _ _ _ _ _ _ _
   | exact snap_put.mono _ _ _
   | exact LeO.none _
   | refine LeO.ite ?_ ?_
   | refine LeO.bind ?_ (fun _ => ?_)
  ·intro y0 y1 y2 y3 y4 y5 y6 y7 y8 y9 y10 y11
   unfold snap_Encode.l3
   repeat' first
   | (with_reducible exact ih0 _ _ _ _ _ _ _ _ _ _ _ _)
   | (with_reducible exact ih1 _ _ _ _ _ _ _ _ _ _ _ _)
   | (with_reducible exact ih2 _ _ _ _ _ _ _ _ _ _ _ _)
   | (with_reducible exact ih3 _ _ _ _ _ _ _ _ _ _ _ _)
   | (with_reducible exact ih4 _ _ _ _ _ _ _ _ _ _ _ _ _ _ _)
   | (with_reducible exact ih5 _ _ _ _)
   | (with_reducible exact snap_fits.mono _ _ _ _ _ _ _ _ _)
   | (with_reducible exact snap_put.mono _ _ _)
   | (with_reducible exact LeO.refl _)
   | (with_reducible exact LeO.none _)
   | (with_reducible refine LeO.ite ?_ ?_)
   | (with_reducible refine LeO.bind ?_ (fun _ => ?_))
   | exact ih0 _ _ _ _ _ _ _ _ _ _ _ _
   | exact ih1 _ _ _ _ _ _ _ _ _ _ _ _
   | exact ih2 _ _ _ _ _ _ _ _ _ _ _ _
   | exact ih3 _ _ _ _ _ _ _ _ _ _ _ _
   | exact ih4 _ _ _ _ _ _ _ _ _ _ _ _ _ _ _
   | exact ih5 _ _ _ _
   | exact snap_fits.mono _ _ _ _ _ _ _ _ _
   | exact snap_put.mono _ _ _
   | exact LeO.none _
   | refine LeO.ite ?_ ?_
   | refine LeO.bind ?_ (fun _ => ?_)
  ·intro y0 y1 y2 y3 y4 y5 y6 y7 y8 y9 y10 y11 y12 y13 y14
   unfold snap_Encode.l4
   repeat' first
   | (with_reducible exact ih0 _ _ _ _ _ _ _ _ _ _ _ _)
   | (with_reducible exact ih1 _ _ _ _ _ _ _ _ _ _ _ _)
   | (with_reducible exact ih2 _ _ _ _ _ _ _ _ _ _ _ _)
   | (with_reducible exact ih3 _ _ _ _ _ _ _ _ _ _ _ _)
   | (with_reducible exact ih4 _ _ _ _ _ _ _ _ _ _ _ _ _ _ _)
   | (with_reducible exact ih5 _ _ _ _)
   | (with_reducible exact snap_fits.mono _ _ _ _ _ _ _ _ _)
   | (with_reducible exact snap_put.mono _ _ _)
   | (with_reducible exact LeO.refl _)
   | (with_reducible exact LeO.none _)
   | (with_reducible refine LeO.ite ?_ ?_)
   | (with_reducible refine LeO.bind ?_ (fun _ => ?_))
   | exact ih0 _ _ _ _ _ _ _ _ _ _ _ _
   | exact ih1 _ _ _ _ _ _ _ _ _ _ _ _
   | exact ih2 _ _ _ _ _ _ _ _ _ _ _ _
   | exact ih3 _ _ _ _ _ _ _ _ _ _ _ _
   | exact ih4 _ _ _ _ _ _ _ _ _ _ _ _ _ _ _
   | exact ih5 _ _ _ _
   | exact snap_fits.mono _ _ _ _ _ _ _ _ _
   | exact snap_put.mono _ _ _
   | exact LeO.none _
   | refine LeO.ite ?_ ?_
   | refine LeO.bind ?_ (fun _ => ?_)
  ·intro y0 y1 y2 y3
   unfold snap_Encode.l5
   repeat' first
   | (with_reducible exact ih0 _ _ _ _ _ _ _ _ _ _ _ _)
   | (with_reducible exact ih1 _ _ _ _ _ _ _ _ _ _ _ _)
   | (with_reducible exact ih2 _ _ _ _ _ _ _ _ _ _ _ _)
   | (with_reducible exact ih3 _ _ _ _ _ _ _ _ _ _ _ _)
   | (with_reducible exact ih4 _ _ _ _ _ _ _ _ _ _ _ _ _ _ _)
   | (with_reducible exact ih5 _ _ _ _)
   | (with_reducible exact snap_fits.mono _ _ _ _ _ _ _ _ _)
   | (with_reducible exact snap_put.mono _ _ _)
   | (with_reducible exact LeO.refl _)
   | (with_reducible exact LeO.none _)
   | (with_reducible refine LeO.ite ?_ ?_)
   | (with_reducible refine LeO.bind ?_ (fun _ => ?_))
   | exact ih0 _ _ _ _ _ _ _ _ _ _ _ _
   | exact ih1 _ _ _ _ _ _ _ _ _ _ _ _
   | exact ih2 _ _ _ _ _ _ _ _ _ _ _ _
   | exact ih3 _ _ _ _ _ _ _ _ _ _ _ _
   | exact ih4 _ _ _ _ _ _ _ _ _ _ _ _ _ _ _
   | exact ih5 _ _ _ _
   | exact snap_fits.mono _ _ _ _ _ _ _ _ _
   | exact snap_put.mono _ _ _
   | exact LeO.none _
   | refine LeO.ite ?_ ?_
   | refine LeO.bind ?_ (fun _ => ?_)
theorem snap_Encode.mono : ∀ a0 a1 a2 a3 a4 a5 a6 a7 k, LeO (snap_Encode.f k a0 a1 a2 a3 a4 a5 a6 a7) (snap_Encode.f (k + 1) a0 a1 a2 a3 a4 a5 a6 a7) := by
 intro a0 a1 a2 a3 a4 a5 a6 a7 k
 obtain ⟨ih0, ih1, ih2, ih3, ih4, ih5⟩ := snap_Encode.mono_l k
 unfold snap_Encode.f
 repeat' first
   | (with_reducible exact ih0 _ _ _ _ _ _ _ _ _ _ _ _)
   | (with_reducible exact ih1 _ _ _ _ _ _ _ _ _ _ _ _)
   | (with_reducible exact ih2 _ _ _ _ _ _ _ _ _ _ _ _)
   | (with_reducible exact ih3 _ _ _ _ _ _ _ _ _ _ _ _)
   | (with_reducible exact ih4 _ _ _ _ _ _ _ _ _ _ _ _ _ _ _)
   | (with_reducible exact ih5 _ _ _ _)
   | (with_reducible exact snap_fits.mono _ _ _ _ _ _ _ _ _)
   | (with_reducible exact snap_put.mono _ _ _)
   | (with_reducible exact LeO.refl _)
   | (with_reducible exact LeO.none _)
   | (with_reducible refine LeO.ite ?_ ?_)
   | (with_reducible refine LeO.bind ?_ (fun _ => ?_))
   | exact ih0 _ _ _ _ _ _ _ _ _ _ _ _
   | exact ih1 _ _ _ _ _ _ _ _ _ _ _ _
   | exact ih2 _ _ _ _ _ _ _ _ _ _ _ _
   | exact ih3 _ _ _ _ _ _ _ _ _ _ _ _
   | exact ih4 _ _ _ _ _ _ _ _ _ _ _ _ _ _ _
   | exact ih5 _ _ _ _
   | exact snap_fits.mono _ _ _ _ _ _ _ _ _
   | exact snap_put.mono _ _ _
   | exact LeO.none _
   | refine LeO.ite ?_ ?_
   | refine LeO.bind ?_ (fun _ => ?_)
set_option maxHeartbeats 8000000 in
set_option maxRecDepth 100000 in
theorem snap_Encode.calls (k : Nat) (a0_0 : Int) (a0_1 : Int) (a0_2 : Int) (A0_3 : Option Addr) (c0_3 : Nat) (l0_3 : List (S93)) (A0_4 : Option Addr) (c0_4 : Nat) (l0_4 : List (S95)) (A0_5 : Option Addr) (c0_5 : Nat) (l0_5 : List (S97)) (A0_6 : Option Addr) (c0_6 : Nat) (l0_6 : List (S100)) (A0_7 : Option Addr) (c0_7 : Nat) (l0_7 : List ByteArray) (r1 : List Int) (r2 : Int) (w : World) (hr0_3 : Kd.C k93 w A0_3 l0_3.length l0_3) (hc0_3 : l0_3.length ≤ c0_3) (hr0_4 : Kd.C k95 w A0_4 l0_4.length l0_4) (hc0_4 : l0_4.length ≤ c0_4) (hr0_5 : Kd.C k97 w A0_5 l0_5.length l0_5) (hc0_5 : l0_5.length ≤ c0_5) (hr0_6 : Kd.C k100 w A0_6 l0_6.length l0_6) (hc0_6 : l0_6.length ≤ c0_6) (hr0_7 : Kd.C Kd.string w A0_7 l0_7.length l0_7) (hc0_7 : l0_7.length ≤ c0_7) (h : snap_Encode.f k a0_0 a0_1 a0_2 l0_3 l0_4 l0_5 l0_6 l0_7 = some (r1, r2)) :
  Calls Try.prog 33 #[.agg #[.int .i64 a0_0, .int .i64 a0_1, .int .i64 a0_2, .slice A0_3 l0_3.length c0_3, .slice A0_4 l0_4.length c0_4, .slice A0_5 l0_5.length c0_5, .slice A0_6 l0_6.length c0_6, .slice A0_7 l0_7.length c0_7]] w fun e w' => ∃ v0_ : Value, e = .returned (.tuple #[v0_, .int .i64 r2]) ∧ Kd.V (Kd.int .u8) 5 w' w.heap.size (fun k_ => (w.heap.size ≤ k_)) v0_ r1 ∧ Below w.heap.size w w' := by
 have hu67 := Try.underlying67
 have hu93 := Try.underlying93
 have hu95 := Try.underlying95
 have hu97 := Try.underlying97
 have hu100 := Try.underlying100
 have hu102 := Try.underlying102
 have HR0_3 := Aside0.mk hr0_3
 have HC0_3 := Aside0.mk hc0_3
 clear hr0_3 hc0_3
 have HR0_4 := Aside0.mk hr0_4
 have HC0_4 := Aside0.mk hc0_4
 clear hr0_4 hc0_4
 have HR0_5 := Aside0.mk hr0_5
 have HC0_5 := Aside0.mk hc0_5
 clear hr0_5 hc0_5
 have HR0_6 := Aside0.mk hr0_6
 have HC0_6 := Aside0.mk hc0_6
 clear hr0_6 hc0_6
 have HR0_7 := Aside0.mk hr0_7
 have HC0_7 := Aside0.mk hc0_7
 clear hr0_7 hc0_7
 have HB := Aside0.mk (Below.refl w.heap.size w)
 have H : ((snap_fits.f k a0_0 a0_1 a0_2 l0_3 l0_4 l0_5 l0_6 l0_7).bind fun t452 => (if t452 = true then ((snap_put.f k ([] : List Int) (([a0_0, a0_1, a0_2, (l0_3.length : Int)] : List Int))).bind fun t456 => (snap_Encode.l0 k t456 l0_3 (l0_3.length : Int) 0 a0_0 a0_1 a0_2 l0_3 l0_4 l0_5 l0_6 l0_7)) else (some (([] : List Int), 3)))) = some (r1, r2) := h
 clear h
 replace H := Option.bind_eq_some_iff.mp H
 obtain ⟨t452, A20, H⟩ := H
 replace H : (if t452 = true then ((snap_put.f k ([] : List Int) (([a0_0, a0_1, a0_2, (l0_3.length : Int)] : List Int))).bind fun t456 => (snap_Encode.l0 k t456 l0_3 (l0_3.length : Int) 0 a0_0 a0_1 a0_2 l0_3 l0_4 l0_5 l0_6 l0_7)) else (some (([] : List Int), 3))) = some (r1, r2) := H
 have A2 := Aside0.mk A20
 clear A20
 by_cases c3 : t452 = true
 ·subst c3
  have H1 : ((snap_put.f k ([] : List Int) (([a0_0, a0_1, a0_2, (l0_3.length : Int)] : List Int))).bind fun t456 => (snap_Encode.l0 k t456 l0_3 (l0_3.length : Int) 0 a0_0 a0_1 a0_2 l0_3 l0_4 l0_5 l0_6 l0_7)) = some (r1, r2) := by rw [if_pos rfl] at H; exact H
  clear H
  have H := H1
  clear H1
  obtain ⟨y453, hy453⟩ : ∃ y_ : List Int, y_ = (([a0_0, a0_1, a0_2, (l0_3.length : Int)] : List Int)) := ⟨_, rfl⟩
  replace H : ((snap_put.f k ([] : List Int) y453).bind fun t456 => (snap_Encode.l0 k t456 l0_3 (l0_3.length : Int) 0 a0_0 a0_1 a0_2 l0_3 l0_4 l0_5 l0_6 l0_7)) = some (r1, r2) := mH hy453 H
  have Ny453 := Aside0.mk hy453
  clear hy453
  replace H := Option.bind_eq_some_iff.mp H
  obtain ⟨t456, A40, H⟩ := H
  replace H : (snap_Encode.l0 k t456 l0_3 (l0_3.length : Int) 0 a0_0 a0_1 a0_2 l0_3 l0_4 l0_5 l0_6 l0_7) = some (r1, r2) := H
  have A4 := Aside0.mk A40
  clear A40
  have H' := Aside0.mk H
  clear H
  go_enter Try.func33, Try.ntmps33
  go_wp2_with (first | ((with_reducible refine gate_dst (N := 1) rfl ?_); refine box_event ?hg (N := 1) ?hd (cs := #[.int .i64 a0_0, .int .i64 a0_1, .int .i64 a0_2, .slice A0_3 l0_3.length c0_3, .slice A0_4 l0_4.length c0_4, .slice A0_5 l0_5.length c0_5, .slice A0_6 l0_6.length c0_6, .slice A0_7 l0_7.length c0_7]) (t := 67) ?hr ?_; (case hd => rfl); (case hg => rfl); (case hr => first | (go_simp; done) | (go_simp; rfl)); intro gb451 hg w5 hbox hb; have n0_ := Aside0.mk (below_step (mB HB.out) hb); have n1_ := Aside0.mk (hbox); have n2_ := Aside0.mk ((by rw [hg]; exact (below_size (mB HB.out)) : w.heap.size ≤ gb451)); have n3_ := Aside0.mk ((by rw [hg]; exact (below_size (mB HB.out)) : w.heap.size ≤ gb451)); clear HB; have HB := n0_; have BK451 := n1_; have GW451 := n2_; have GE451 := n3_; clear n0_ n1_ n2_ n3_ hb hbox hg; have hcz6_0 : w5.cell? ⟨gb451, 0, none⟩ = some (.int .i64 a0_0) := (blk_cell BK451.out 0).trans rfl; have hcz6_1 : w5.cell? ⟨gb451, 1, none⟩ = some (.int .i64 a0_1) := (blk_cell BK451.out 1).trans rfl; have hcz6_2 : w5.cell? ⟨gb451, 2, none⟩ = some (.int .i64 a0_2) := (blk_cell BK451.out 2).trans rfl; have hcz6_3 : w5.cell? ⟨gb451, 3, none⟩ = some (.slice A0_3 l0_3.length c0_3) := (blk_cell BK451.out 3).trans rfl; have hcz6_4 : w5.cell? ⟨gb451, 4, none⟩ = some (.slice A0_4 l0_4.length c0_4) := (blk_cell BK451.out 4).trans rfl; have hcz6_5 : w5.cell? ⟨gb451, 5, none⟩ = some (.slice A0_5 l0_5.length c0_5) := (blk_cell BK451.out 5).trans rfl; have hcz6_6 : w5.cell? ⟨gb451, 6, none⟩ = some (.slice A0_6 l0_6.length c0_6) := (blk_cell BK451.out 6).trans rfl; have hcz6_7 : w5.cell? ⟨gb451, 7, none⟩ = some (.slice A0_7 l0_7.length c0_7) := (blk_cell BK451.out 7).trans rfl; have hfz6_0 := blk_frozen BK451.out 0; have hfz6_1 := blk_frozen BK451.out 1; have hfz6_2 := blk_frozen BK451.out 2; have hfz6_3 := blk_frozen BK451.out 3; have hfz6_4 := blk_frozen BK451.out 4; have hfz6_5 := blk_frozen BK451.out 5; have hfz6_6 := blk_frozen BK451.out 6; have hfz6_7 := blk_frozen BK451.out 7) | ((with_reducible refine gate_callee (f := 48) rfl ?_); refine goesL_ (some 18) rfl rfl Try.func48 (by kernel_rfl) rfl #[.agg #[.int .i64 a0_0, .int .i64 a0_1, .int .i64 a0_2, .slice A0_3 l0_3.length c0_3, .slice A0_4 l0_4.length c0_4, .slice A0_5 l0_5.length c0_5, .slice A0_6 l0_6.length c0_6, .slice A0_7 l0_7.length c0_7]] rfl mt ?_; (with_reducible refine (snap_fits.calls k a0_0 a0_1 a0_2 _ _ l0_3 _ _ l0_4 _ _ l0_5 _ _ l0_6 _ _ l0_7 true _ ?side1 ?side2 ?side3 ?side4 ?side5 ?side6 ?side7 ?side8 ?side9 ?side10 A2.out).mono ?_); (case side1 => repeat (first | exact (Kd.C_below HR0_3.out HB.out) | (with_reducible refine Kd.C_alloc ?_ _) | (with_reducible refine Kd.C_drewN ?_ _) | (with_reducible refine Kd.C_drew ?_))); (case side2 => exact HC0_3.out); (case side3 => repeat (first | exact (Kd.C_below HR0_4.out HB.out) | (with_reducible refine Kd.C_alloc ?_ _) | (with_reducible refine Kd.C_drewN ?_ _) | (with_reducible refine Kd.C_drew ?_))); (case side4 => exact HC0_4.out); (case side5 => repeat (first | exact (Kd.C_below HR0_5.out HB.out) | (with_reducible refine Kd.C_alloc ?_ _) | (with_reducible refine Kd.C_drewN ?_ _) | (with_reducible refine Kd.C_drew ?_))); (case side6 => exact HC0_5.out); (case side7 => repeat (first | exact (Kd.C_below HR0_6.out HB.out) | (with_reducible refine Kd.C_alloc ?_ _) | (with_reducible refine Kd.C_drewN ?_ _) | (with_reducible refine Kd.C_drew ?_))); (case side8 => exact HC0_6.out); (case side9 => repeat (first | exact (Kd.C_below HR0_7.out HB.out) | (with_reducible refine Kd.C_alloc ?_ _) | (with_reducible refine Kd.C_drewN ?_ _) | (with_reducible refine Kd.C_drew ?_))); (case side10 => exact HC0_7.out); rintro e w7 ⟨rfl, hb⟩; refine ⟨_, rfl, ?_⟩; have n0_ := Aside0.mk (blk_below (g := gb451) (o := .cells #[.int .i64 a0_0, .int .i64 a0_1, .int .i64 a0_2, .slice A0_3 l0_3.length c0_3, .slice A0_4 l0_4.length c0_4, .slice A0_5 l0_5.length c0_5, .slice A0_6 l0_6.length c0_6, .slice A0_7 l0_7.length c0_7] 67 (0, 0)) (mBK BK451.out) hb); have n1_ := Aside0.mk (below_step (mBs HB.out) hb); clear BK451 HB; have BK451 := n0_; have HB := n1_; clear n0_ n1_ hb; have hcz8_0 : w7.cell? ⟨gb451, 0, none⟩ = some (.int .i64 a0_0) := (blk_cell BK451.out 0).trans rfl; have hcz8_1 : w7.cell? ⟨gb451, 1, none⟩ = some (.int .i64 a0_1) := (blk_cell BK451.out 1).trans rfl; have hcz8_2 : w7.cell? ⟨gb451, 2, none⟩ = some (.int .i64 a0_2) := (blk_cell BK451.out 2).trans rfl; have hcz8_3 : w7.cell? ⟨gb451, 3, none⟩ = some (.slice A0_3 l0_3.length c0_3) := (blk_cell BK451.out 3).trans rfl; have hcz8_4 : w7.cell? ⟨gb451, 4, none⟩ = some (.slice A0_4 l0_4.length c0_4) := (blk_cell BK451.out 4).trans rfl; have hcz8_5 : w7.cell? ⟨gb451, 5, none⟩ = some (.slice A0_5 l0_5.length c0_5) := (blk_cell BK451.out 5).trans rfl; have hcz8_6 : w7.cell? ⟨gb451, 6, none⟩ = some (.slice A0_6 l0_6.length c0_6) := (blk_cell BK451.out 6).trans rfl; have hcz8_7 : w7.cell? ⟨gb451, 7, none⟩ = some (.slice A0_7 l0_7.length c0_7) := (blk_cell BK451.out 7).trans rfl; have hfz8_0 := blk_frozen BK451.out 0; have hfz8_1 := blk_frozen BK451.out 1; have hfz8_2 := blk_frozen BK451.out 2; have hfz8_3 := blk_frozen BK451.out 3; have hfz8_4 := blk_frozen BK451.out 4; have hfz8_5 := blk_frozen BK451.out 5; have hfz8_6 := blk_frozen BK451.out 6; have hfz8_7 := blk_frozen BK451.out 7) | ((with_reducible refine gate_dst (N := 29) rfl ?_); refine Kd.R_lit (Kd.int .i64) _ 3 ?hg (N := 29) ?hd (xs := ([a0_0, a0_1, a0_2, (l0_3.length : Int)] : List Int)) (inner := [.int .i64 a0_0, .int .i64 a0_1, .int .i64 a0_2, .int .i64 (l0_3.length : Int)]) (ok := fun _ => True) (okp := fun _ => True) ?hr ?hp (fun _ hk => hk) trivial (Below.refl _ _) (Nat.le_refl _) (by simp) ?_; (case hd => rfl); (case hg => rfl); (case hr => first | (go_simp; done) | (go_simp; rfl)); (case hp => exact (Reps.one (show Kd.M (Kd.int .i64) _ _ _ a0_0 [.int .i64 a0_0] from rfl) (Reps.one (show Kd.M (Kd.int .i64) _ _ _ a0_1 [.int .i64 a0_1] from rfl) (Reps.one (show Kd.M (Kd.int .i64) _ _ _ a0_2 [.int .i64 a0_2] from rfl) (Reps.one (show Kd.M (Kd.int .i64) _ _ _ (l0_3.length : Int) [.int .i64 (l0_3.length : Int)] from rfl) (Reps.none _ _)))))); intro v454 w9 ho10 hb hg_ hnew_; clear hg_ hnew_; (first | rw [← Ny453.out] at ho10 | (simp only [Int.reduceToNat] at ho10; rw [← Ny453.out] at ho10)); have n0_ := Aside0.mk (Kd.R_lower (Kd.R_newM (M := fun k_ => (w.heap.size ≤ k_)) ho10 (below_size (mBs HB.out)) (fun k_ h_ => h_)) (below_size (mBs HB.out))); have n1_ := Aside0.mk (blk_below (g := gb451) (o := .cells #[.int .i64 a0_0, .int .i64 a0_1, .int .i64 a0_2, .slice A0_3 l0_3.length c0_3, .slice A0_4 l0_4.length c0_4, .slice A0_5 l0_5.length c0_5, .slice A0_6 l0_6.length c0_6, .slice A0_7 l0_7.length c0_7] 67 (0, 0)) (mBK BK451.out) hb); have n2_ := Aside0.mk (below_step (mBs HB.out) hb); clear BK451 HB; have HO455 := n0_; have BK451 := n1_; have HB := n2_; clear n0_ n1_ n2_ hb ho10; obtain ⟨Ao11, co11, eo11⟩ := Kd.R_slice HO455.out; subst eo11) | ((with_reducible refine gate_callee (f := 49) rfl ?_); refine goesL_ (some 30) rfl rfl Try.func49 (by kernel_rfl) rfl #[.slice none 0 0, .slice Ao11 y453.length co11] rfl mt ?_; (refine (snap_put.calls k (fun k_ => some k_ = (.slice none 0 0 : Value).ownBlock) (.slice none 0 0) ([] : List Int) _ _ y453 t456 w _ ?side1 ?side2 ?side3 ?side4 A4.out).mono ?_); (case side1 => repeat (first | (with_reducible first | exact HB.out | apply below_alloc | apply pw_below_drewN | apply below_drew1 | refine below_set ?_ GE451.out) | exact HB.out)); (case side2 => exact Kd.R_nil _ _ _ _ _); (case side3 => exact Kd.C_kept_own (HO455.out) (fun k_ hk_ hs_ => (fun e_ => by simp [Value.ownBlock] at e_) hs_)); (case side4 => exact (Kd.R_reads' HO455.out).2.1); rintro e w12 ⟨v457, rfl, ho0, hb, hkp⟩; refine ⟨_, rfl, ?_⟩; have n0_ := Aside0.mk (blk_kept (mBK BK451.out) hkp (fun hs_ => (fun e_ => by simp [Value.ownBlock] at e_) hs_)); have n1_ := Aside0.mk (Kd.R_mono (ok' := fun k_ => (w.heap.size ≤ k_)) (Kd.R_keptB (HO455.out) hkp (fun k_ hk_ hs_ => (fun e_ => by simp [Value.ownBlock] at e_) hs_)) (fun k_ hk_ => hk_.1.1)); have n2_ := Aside0.mk (Kd.R_mono (ok' := fun k_ => (w.heap.size ≤ k_)) ho0 (fun k_ hk_ => Or.elim hk_ (fun hs_ => absurd hs_ (by simp [Value.ownBlock])) (fun hn_ => (Nat.le_trans (below_size (mBs HB.out)) hn_)))); have n3_ := Aside0.mk (hb); clear BK451 HO455 HB; have BK451 := n0_; have HO455 := n1_; have HO458 := n2_; have HB := n3_; clear n0_ n1_ n2_ n3_ hb hkp ho0; have hcz13_0 : w12.cell? ⟨gb451, 0, none⟩ = some (.int .i64 a0_0) := (blk_cell BK451.out 0).trans rfl; have hcz13_1 : w12.cell? ⟨gb451, 1, none⟩ = some (.int .i64 a0_1) := (blk_cell BK451.out 1).trans rfl; have hcz13_2 : w12.cell? ⟨gb451, 2, none⟩ = some (.int .i64 a0_2) := (blk_cell BK451.out 2).trans rfl; have hcz13_3 : w12.cell? ⟨gb451, 3, none⟩ = some (.slice A0_3 l0_3.length c0_3) := (blk_cell BK451.out 3).trans rfl; have hcz13_4 : w12.cell? ⟨gb451, 4, none⟩ = some (.slice A0_4 l0_4.length c0_4) := (blk_cell BK451.out 4).trans rfl; have hcz13_5 : w12.cell? ⟨gb451, 5, none⟩ = some (.slice A0_5 l0_5.length c0_5) := (blk_cell BK451.out 5).trans rfl; have hcz13_6 : w12.cell? ⟨gb451, 6, none⟩ = some (.slice A0_6 l0_6.length c0_6) := (blk_cell BK451.out 6).trans rfl; have hcz13_7 : w12.cell? ⟨gb451, 7, none⟩ = some (.slice A0_7 l0_7.length c0_7) := (blk_cell BK451.out 7).trans rfl; have hfz13_0 := blk_frozen BK451.out 0; have hfz13_1 := blk_frozen BK451.out 1; have hfz13_2 := blk_frozen BK451.out 2; have hfz13_3 := blk_frozen BK451.out 3; have hfz13_4 := blk_frozen BK451.out 4; have hfz13_5 := blk_frozen BK451.out 5; have hfz13_6 := blk_frozen BK451.out 6; have hfz13_7 := blk_frozen BK451.out 7))
  go_loopg [4, 34] k (fun kq v4 v34 w' => ∃ (x4_1 : List Int) (x34_1 : Int), v34 = .int .i64 x34_1 ∧ Aside0 (snap_Encode.l0 kq x4_1 l0_3 (l0_3.length : Int) x34_1 a0_0 a0_1 a0_2 l0_3 l0_4 l0_5 l0_6 l0_7 = some (r1, r2)) ∧ Aside0 (kq ≤ k) ∧ Aside0 (Kd.R (Kd.int .u8) 5 w' w.heap.size (fun k_ => (w.heap.size ≤ k_)) v4 x4_1) ∧ Aside0 (w'.heap[gb451]? = some (.cells #[.int .i64 a0_0, .int .i64 a0_1, .int .i64 a0_2, (.slice A0_3 l0_3.length c0_3), (.slice A0_4 l0_4.length c0_4), (.slice A0_5 l0_5.length c0_5), (.slice A0_6 l0_6.length c0_6), (.slice A0_7 l0_7.length c0_7)] 67 (0, 0))) ∧ Aside0 (Below w.heap.size w w'))
  case atStart => exact ⟨(t456), (0), ez, H', ⟨Nat.le_refl _⟩, ⟨mR HO458.out⟩, ⟨mBK BK451.out⟩, ⟨mBs HB.out⟩⟩
  case round =>
   clear H'
   clear hcz13_0 hcz13_1 hcz13_2 hcz13_3 hcz13_4 hcz13_5 hcz13_6 hcz13_7 hcz6_0 hcz6_1 hcz6_2 hcz6_3 hcz6_4 hcz6_5 hcz6_6 hcz6_7 hcz8_0 hcz8_1 hcz8_2 hcz8_3 hcz8_4 hcz8_5 hcz8_6 hcz8_7 hfz13_0 hfz13_1 hfz13_2 hfz13_3 hfz13_4 hfz13_5 hfz13_6 hfz13_7 hfz6_0 hfz6_1 hfz6_2 hfz6_3 hfz6_4 hfz6_5 hfz6_6 hfz6_7 hfz8_0 hfz8_1 hfz8_2 hfz8_3 hfz8_4 hfz8_5 hfz8_6 hfz8_7
   obtain ⟨x4_1, x34_1, rfl, HA, HK1, HO_4, BK451, HB⟩ := hrel
   cases gk with
   | zero => exact absurd HA.out (by simp [snap_Encode.l0])
   | succ k1 =>
    have H := HA.out
    clear HA
    simp only [snap_Encode.l0] at H
    by_cases c14 : x34_1 < (l0_3.length : Int)
    ·rw [if_pos c14] at H
     have c14b0 : decide (x34_1 < (l0_3.length : Int)) = true := decide_eq_true c14
     clear c14
     by_cases c15 : 0 ≤ x34_1
     ·rw [if_pos c15] at H
      have c15b0 : decide (0 ≤ x34_1) = true := decide_eq_true c15
      clear c15
      by_cases c16 : x34_1 < (l0_3.length : Int)
      ·rw [if_pos c16] at H
       have c16b0 : decide (x34_1 < (l0_3.length : Int)) = true := decide_eq_true c16
       clear c16
       replace H := Option.bind_eq_some_iff.mp H
       obtain ⟨t461, A170, H⟩ := H
       replace H : ((snap_put.f k1 t461 (([(rd_T93 l0_3 x34_1).f1, (rd_T93 l0_3 x34_1).f2] : List Int))).bind fun t467 => (snap_Encode.l0 k1 t467 l0_3 (l0_3.length : Int) (wrap64 (x34_1 + 1)) a0_0 a0_1 a0_2 l0_3 l0_4 l0_5 l0_6 l0_7)) = some (r1, r2) := H
       have A17 := Aside0.mk A170
       clear A170
       obtain ⟨y464, hy464⟩ : ∃ y_ : List Int, y_ = (([(rd_T93 l0_3 x34_1).f1, (rd_T93 l0_3 x34_1).f2] : List Int)) := ⟨_, rfl⟩
       replace H : ((snap_put.f k1 t461 y464).bind fun t467 => (snap_Encode.l0 k1 t467 l0_3 (l0_3.length : Int) (wrap64 (x34_1 + 1)) a0_0 a0_1 a0_2 l0_3 l0_4 l0_5 l0_6 l0_7)) = some (r1, r2) := mH hy464 H
       have Ny464 := Aside0.mk hy464
       clear hy464
       replace H := Option.bind_eq_some_iff.mp H
       obtain ⟨t467, A180, H⟩ := H
       replace H : (snap_Encode.l0 k1 t467 l0_3 (l0_3.length : Int) (wrap64 (x34_1 + 1)) a0_0 a0_1 a0_2 l0_3 l0_4 l0_5 l0_6 l0_7) = some (r1, r2) := H
       have A18 := Aside0.mk A180
       clear A180
       have H' := Aside0.mk H
       clear H
       have p459 : 0 ≤ (x34_1 : Int) := oda
       have q459 : x34_1 < (l0_3.length : Int) := oda
       obtain ⟨ad459, e459, hx459_0, hx459_1, hx459_2⟩ := at_T93 HR0_3.out x34_1 p459 q459
       cases e459
       replace hx459_0 := (HB.out.cell (World.block_lt_of_cell? w _ hx459_0)).trans hx459_0
       replace hx459_1 := (HB.out.cell (World.block_lt_of_cell? w _ hx459_1)).trans hx459_1
       replace hx459_2 := (HB.out.cell (World.block_lt_of_cell? w _ hx459_2)).trans hx459_2
       replace p459 := eq_true p459
       replace q459 := eq_true q459
       go_wp2_with (first | ((with_reducible refine gate_dst (N := 6) rfl ?_); refine box_event ?hg (N := 6) ?hd (cs := #[.string (⟨#[]⟩ : ByteArray), .int .i64 0, .int .i64 0]) (t := 93) ?hr ?_; (case hd => rfl); (case hg => rfl); (case hr => first | (go_simp; done) | (go_simp; rfl)); intro gb460 hg w19 hbox hb; have n0_ := Aside0.mk (Kd.R_below (mR HO_4.out) hb); have n1_ := Aside0.mk (blk_below (g := gb451) (o := .cells #[.int .i64 a0_0, .int .i64 a0_1, .int .i64 a0_2, .slice (some ad459) l0_3.length c0_3, .slice A0_4 l0_4.length c0_4, .slice A0_5 l0_5.length c0_5, .slice A0_6 l0_6.length c0_6, .slice A0_7 l0_7.length c0_7] 67 (0, 0)) (mBK BK451.out) hb); have n2_ := Aside0.mk (below_step (mBs HB.out) hb); have n3_ := Aside0.mk (hbox); have n4_ := Aside0.mk ((by rw [hg]; exact (below_size (mBs HB.out)) : w.heap.size ≤ gb460)); have n5_ := Aside0.mk ((by rw [hg]; exact (below_size (mBs HB.out)) : w.heap.size ≤ gb460)); have n6_ := Aside0.mk ((by rw [hg]; exact Nat.ne_of_lt (blk_lt (g := gb451) (o := .cells #[.int .i64 a0_0, .int .i64 a0_1, .int .i64 a0_2, .slice (some ad459) l0_3.length c0_3, .slice A0_4 l0_4.length c0_4, .slice A0_5 l0_5.length c0_5, .slice A0_6 l0_6.length c0_6, .slice A0_7 l0_7.length c0_7] 67 (0, 0)) (mBK BK451.out)) : gb451 ≠ gb460)); have n7_ := Aside0.mk ((by rw [hg]; exact Nat.ne_of_gt (blk_lt (g := gb451) (o := .cells #[.int .i64 a0_0, .int .i64 a0_1, .int .i64 a0_2, .slice (some ad459) l0_3.length c0_3, .slice A0_4 l0_4.length c0_4, .slice A0_5 l0_5.length c0_5, .slice A0_6 l0_6.length c0_6, .slice A0_7 l0_7.length c0_7] 67 (0, 0)) (mBK BK451.out)) : gb460 ≠ gb451)); clear HO_4 BK451 HB; have HO_4 := n0_; have BK451 := n1_; have HB := n2_; have BK460 := n3_; have GW460 := n4_; have GE460 := n5_; have NB451_460 := n6_; have NB460_451 := n7_; clear n0_ n1_ n2_ n3_ n4_ n5_ n6_ n7_ hb hbox hg; have hnb20 := NB460_451.out; have hnc20 := NB451_460.out; have hcz21_0 : w19.cell? ⟨gb460, 0, none⟩ = some (.string (⟨#[]⟩ : ByteArray)) := (blk_cell BK460.out 0).trans rfl; have hcz21_1 : w19.cell? ⟨gb460, 1, none⟩ = some (.int .i64 0) := (blk_cell BK460.out 1).trans rfl; have hcz21_2 : w19.cell? ⟨gb460, 2, none⟩ = some (.int .i64 0) := (blk_cell BK460.out 2).trans rfl; have hfz21_0 := blk_frozen BK460.out 0; have hfz21_1 := blk_frozen BK460.out 1; have hfz21_2 := blk_frozen BK460.out 2) | ((with_reducible refine gate_store (t := 93) (p := 6) rfl ?_); refine store_event (t := 93) (p := 6) (v := ?vo_w22) (w1 := (((w19.setCell ⟨gb460, 0, none⟩ (.string ((rd_T93 l0_3 x34_1).f0))).setCell ⟨gb460, 1, none⟩ (.int .i64 ((rd_T93 l0_3 x34_1).f1))).setCell ⟨gb460, 2, none⟩ (.int .i64 ((rd_T93 l0_3 x34_1).f2)))) ?hg ?ho ?hn ?hr ?_; (case ho => rfl); (case hg => rfl); (case hn => rfl); (case hr => first | (go_simp; done) | (go_simp; rfl)); intro w22 hw; have n0_ : Aside0 (Kd.R (Kd.int .u8) 5 w22 w.heap.size (fun k_ => (w.heap.size ≤ k_)) u4 x4_1) := ⟨(by rw [hw]; exact (by (with_reducible repeat (first | apply Kd.R_alloc | apply Kd.R_drewN | apply Kd.R_drew)); exact Kd.R_mono (Kd.R_fa gb460 2 (Kd.R_fa gb460 1 (Kd.R_fa gb460 0 (Kd.R_types HO_4.out BK460.out (by decide)) (.string ((rd_T93 l0_3 x34_1).f0))) (.int .i64 ((rd_T93 l0_3 x34_1).f1))) (.int .i64 ((rd_T93 l0_3 x34_1).f2))) (fun _ hk => hk.1)))⟩; have n1_ : Aside0 (w22.heap[gb451]? = some (.cells #[.int .i64 a0_0, .int .i64 a0_1, .int .i64 a0_2, .slice (some ad459) l0_3.length c0_3, .slice A0_4 l0_4.length c0_4, .slice A0_5 l0_5.length c0_5, .slice A0_6 l0_6.length c0_6, .slice A0_7 l0_7.length c0_7] 67 (0, 0))) := ⟨(by rw [hw]; exact (by (with_reducible repeat first | apply blk_drewN | apply blk_drew | apply blk_alloc); refine blk_far ?_ NB451_460.out _; (with_reducible repeat first | apply blk_drewN | apply blk_drew | apply blk_alloc); refine blk_far ?_ NB451_460.out _; (with_reducible repeat first | apply blk_drewN | apply blk_drew | apply blk_alloc); refine blk_far ?_ NB451_460.out _; (with_reducible repeat first | apply blk_drewN | apply blk_drew | apply blk_alloc); exact BK451.out))⟩; have n2_ : Aside0 (w22.heap[gb460]? = some (.cells #[.string ((rd_T93 l0_3 x34_1).f0), .int .i64 ((rd_T93 l0_3 x34_1).f1), .int .i64 ((rd_T93 l0_3 x34_1).f2)] 93 (0, 0))) := ⟨(by rw [hw]; exact (by (with_reducible repeat first | apply blk_drewN | apply blk_drew | apply blk_alloc); refine blk_put (cs := #[.string ((rd_T93 l0_3 x34_1).f0), .int .i64 ((rd_T93 l0_3 x34_1).f1), .int .i64 0]) ?_ 2 _ rfl; (with_reducible repeat first | apply blk_drewN | apply blk_drew | apply blk_alloc); refine blk_put (cs := #[.string ((rd_T93 l0_3 x34_1).f0), .int .i64 0, .int .i64 0]) ?_ 1 _ rfl; (with_reducible repeat first | apply blk_drewN | apply blk_drew | apply blk_alloc); refine blk_put (cs := #[.string (⟨#[]⟩ : ByteArray), .int .i64 0, .int .i64 0]) ?_ 0 _ rfl; (with_reducible repeat first | apply blk_drewN | apply blk_drew | apply blk_alloc); exact BK460.out))⟩; have n3_ : Aside0 (Below w.heap.size w w22) := ⟨(by rw [hw]; exact (mBs HB.out))⟩; clear hw HO_4 BK451 BK460 HB; have HO_4 := n0_; have BK451 := n1_; have BK460 := n2_; have HB := n3_; clear n0_ n1_ n2_ n3_; have hcz23_0 : w22.cell? ⟨gb460, 0, none⟩ = some (.string ((rd_T93 l0_3 x34_1).f0)) := (blk_cell BK460.out 0).trans rfl; have hcz23_1 : w22.cell? ⟨gb460, 1, none⟩ = some (.int .i64 ((rd_T93 l0_3 x34_1).f1)) := (blk_cell BK460.out 1).trans rfl; have hcz23_2 : w22.cell? ⟨gb460, 2, none⟩ = some (.int .i64 ((rd_T93 l0_3 x34_1).f2)) := (blk_cell BK460.out 2).trans rfl; have hfz23_0 := blk_frozen BK460.out 0; have hfz23_1 := blk_frozen BK460.out 1; have hfz23_2 := blk_frozen BK460.out 2; obtain ⟨Ao24, co24, eo24⟩ := Kd.R_slice HO_4.out; subst eo24) | ((with_reducible refine gate_callee (f := 50) rfl ?_); refine goesL_ (some 41) rfl rfl Try.func50 (by kernel_rfl) rfl #[.slice Ao24 x4_1.length co24, .string ((rd_T93 l0_3 x34_1).f0)] rfl mt ?_; (with_reducible refine (snap_word.calls (fun k_ => some k_ = (.slice Ao24 x4_1.length co24 : Value).ownBlock) (.slice Ao24 x4_1.length co24) x4_1 ((rd_T93 l0_3 x34_1).f0) t461 w _ ?side1 ?side2 A17.out).mono ?_); (case side1 => repeat (first | (with_reducible first | exact HB.out | apply below_alloc | apply pw_below_drewN | apply below_drew1 | refine below_set ?_ GE451.out | refine below_set ?_ GE460.out) | exact HB.out)); (case side2 => exact Kd.R_tight rfl HO_4.out); rintro e w25 ⟨v462, rfl, ho0, hb, hkp⟩; refine ⟨_, rfl, ?_⟩; have n0_ := Aside0.mk (blk_kept (mBK BK451.out) hkp (fun hs_ => (fun e_ => (Kd.R_ne HO_4.out BK451.out (by decide)) e_) hs_)); have n1_ := Aside0.mk (blk_kept (mBK BK460.out) hkp (fun hs_ => (fun e_ => (Kd.R_ne HO_4.out BK460.out (by decide)) e_) hs_)); have n2_ := Aside0.mk (Kd.R_mono (ok' := fun k_ => (w.heap.size ≤ k_)) ho0 (fun k_ hk_ => Or.elim hk_ (fun hs_ => (HO_4.out.1 k_ (hs_).symm)) (fun hn_ => (Nat.le_trans (below_size (mBs HB.out)) hn_)))); have n3_ := Aside0.mk (hb); clear BK451 BK460 HB HO_4; have BK451 := n0_; have BK460 := n1_; have HO463 := n2_; have HB := n3_; clear n0_ n1_ n2_ n3_ hb hkp ho0; have hcz26_0 : w25.cell? ⟨gb460, 0, none⟩ = some (.string ((rd_T93 l0_3 x34_1).f0)) := (blk_cell BK460.out 0).trans rfl; have hcz26_1 : w25.cell? ⟨gb460, 1, none⟩ = some (.int .i64 ((rd_T93 l0_3 x34_1).f1)) := (blk_cell BK460.out 1).trans rfl; have hcz26_2 : w25.cell? ⟨gb460, 2, none⟩ = some (.int .i64 ((rd_T93 l0_3 x34_1).f2)) := (blk_cell BK460.out 2).trans rfl; have hfz26_0 := blk_frozen BK460.out 0; have hfz26_1 := blk_frozen BK460.out 1; have hfz26_2 := blk_frozen BK460.out 2) | ((with_reducible refine gate_dst (N := 47) rfl ?_); refine Kd.R_lit (Kd.int .i64) _ 3 ?hg (N := 47) ?hd (xs := ([(rd_T93 l0_3 x34_1).f1, (rd_T93 l0_3 x34_1).f2] : List Int)) (inner := [.int .i64 ((rd_T93 l0_3 x34_1).f1), .int .i64 ((rd_T93 l0_3 x34_1).f2)]) (ok := fun _ => True) (okp := fun _ => True) ?hr ?hp (fun _ hk => hk) trivial (Below.refl _ _) (Nat.le_refl _) (by simp) ?_; (case hd => rfl); (case hg => rfl); (case hr => first | (go_simp; done) | (go_simp; rfl)); (case hp => exact (Reps.one (show Kd.M (Kd.int .i64) _ _ _ ((rd_T93 l0_3 x34_1).f1) [.int .i64 ((rd_T93 l0_3 x34_1).f1)] from rfl) (Reps.one (show Kd.M (Kd.int .i64) _ _ _ ((rd_T93 l0_3 x34_1).f2) [.int .i64 ((rd_T93 l0_3 x34_1).f2)] from rfl) (Reps.none _ _)))); intro v465 w27 ho28 hb hg_ hnew_; clear hg_ hnew_; (first | rw [← Ny464.out] at ho28 | (simp only [Int.reduceToNat] at ho28; rw [← Ny464.out] at ho28)); have n0_ := Aside0.mk (Kd.R_below (mR HO463.out) hb); have n1_ := Aside0.mk (Kd.R_lower (Kd.R_newM (M := fun k_ => (w.heap.size ≤ k_)) ho28 (below_size (mBs HB.out)) (fun k_ h_ => h_)) (below_size (mBs HB.out))); have n2_ := Aside0.mk (blk_below (g := gb451) (o := .cells #[.int .i64 a0_0, .int .i64 a0_1, .int .i64 a0_2, .slice (some ad459) l0_3.length c0_3, .slice A0_4 l0_4.length c0_4, .slice A0_5 l0_5.length c0_5, .slice A0_6 l0_6.length c0_6, .slice A0_7 l0_7.length c0_7] 67 (0, 0)) (mBK BK451.out) hb); have n3_ := Aside0.mk (blk_below (g := gb460) (o := .cells #[.string ((rd_T93 l0_3 x34_1).f0), .int .i64 ((rd_T93 l0_3 x34_1).f1), .int .i64 ((rd_T93 l0_3 x34_1).f2)] 93 (0, 0)) (mBK BK460.out) hb); have n4_ := Aside0.mk (below_step (mBs HB.out) hb); clear HO463 BK451 BK460 HB; have HO463 := n0_; have HO466 := n1_; have BK451 := n2_; have BK460 := n3_; have HB := n4_; clear n0_ n1_ n2_ n3_ n4_ hb ho28; obtain ⟨Ao29, co29, eo29⟩ := Kd.R_slice HO463.out; subst eo29; obtain ⟨Ao30, co30, eo30⟩ := Kd.R_slice HO466.out; subst eo30) | ((with_reducible refine gate_callee (f := 49) rfl ?_); refine goesL_ (some 48) rfl rfl Try.func49 (by kernel_rfl) rfl #[.slice Ao29 t461.length co29, .slice Ao30 y464.length co30] rfl mt ?_; (with_reducible refine (snap_put.calls k1 (fun k_ => some k_ = (.slice Ao29 t461.length co29 : Value).ownBlock) (.slice Ao29 t461.length co29) t461 _ _ y464 t467 w _ ?side1 ?side2 ?side3 ?side4 A18.out).mono ?_); (case side1 => repeat (first | (with_reducible first | exact HB.out | apply below_alloc | apply pw_below_drewN | apply below_drew1 | refine below_set ?_ GE451.out | refine below_set ?_ GE460.out) | exact HB.out)); (case side2 => exact Kd.R_tight rfl HO463.out); (case side3 => exact Kd.C_kept_own ((Kd.R_apart' HO466.out (Kd.R_typed HO463.out) (by decide))) (fun k_ hk_ hs_ => (hk_.2) hs_)); (case side4 => exact (Kd.R_reads' HO466.out).2.1); rintro e w31 ⟨v468, rfl, ho0, hb, hkp⟩; refine ⟨_, rfl, ?_⟩; have n0_ := Aside0.mk (blk_kept (mBK BK451.out) hkp (fun hs_ => (fun e_ => (Kd.R_ne HO463.out BK451.out (by decide)) e_) hs_)); have n1_ := Aside0.mk (blk_kept (mBK BK460.out) hkp (fun hs_ => (fun e_ => (Kd.R_ne HO463.out BK460.out (by decide)) e_) hs_)); have n2_ := Aside0.mk (Kd.R_mono (ok' := fun k_ => (w.heap.size ≤ k_)) (Kd.R_keptB ((Kd.R_apart' HO466.out (Kd.R_typed HO463.out) (by decide))) hkp (fun k_ hk_ hs_ => (hk_.2) hs_)) (fun k_ hk_ => hk_.1.1.1)); have n3_ := Aside0.mk (Kd.R_mono (ok' := fun k_ => (w.heap.size ≤ k_)) ho0 (fun k_ hk_ => Or.elim hk_ (fun hs_ => (HO463.out.1 k_ (hs_).symm)) (fun hn_ => (Nat.le_trans (below_size (mBs HB.out)) hn_)))); have n4_ := Aside0.mk (hb); clear BK451 BK460 HO466 HB HO463; have BK451 := n0_; have BK460 := n1_; have HO466 := n2_; have HO469 := n3_; have HB := n4_; clear n0_ n1_ n2_ n3_ n4_ hb hkp ho0))
       go_roundg k1
       case measure => have := HK1.out; omega
       case rel => exact ⟨(t467), (wrap64 (x34_1 + 1)), ez, H', ⟨by have := HK1.out; omega⟩, ⟨mR HO469.out⟩, ⟨mBK BK451.out⟩, ⟨mBs HB.out⟩⟩
      ·rw [if_neg c16] at H
       exact absurd H (by simp)
     ·rw [if_neg c15] at H
      exact absurd H (by simp)
    ·rw [if_neg c14] at H
     have c14b0 : decide (x34_1 < (l0_3.length : Int)) = false := decide_eq_false c14
     clear c14
     obtain ⟨y470, hy470⟩ : ∃ y_ : List Int, y_ = (([(l0_4.length : Int)] : List Int)) := ⟨_, rfl⟩
     replace H : ((snap_put.f k1 x4_1 y470).bind fun t473 => (snap_Encode.l1 k1 t473 l0_4 (l0_4.length : Int) 0 a0_0 a0_1 a0_2 l0_3 l0_4 l0_5 l0_6 l0_7)) = some (r1, r2) := mH hy470 H
     have Ny470 := Aside0.mk hy470
     clear hy470
     replace H := Option.bind_eq_some_iff.mp H
     obtain ⟨t473, A320, H⟩ := H
     replace H : (snap_Encode.l1 k1 t473 l0_4 (l0_4.length : Int) 0 a0_0 a0_1 a0_2 l0_3 l0_4 l0_5 l0_6 l0_7) = some (r1, r2) := H
     have A32 := Aside0.mk A320
     clear A320
     have H' := Aside0.mk H
     clear H
     have hcz33_0 : wr.cell? ⟨gb451, 0, none⟩ = some (.int .i64 a0_0) := (blk_cell BK451.out 0).trans rfl
     have hcz33_1 : wr.cell? ⟨gb451, 1, none⟩ = some (.int .i64 a0_1) := (blk_cell BK451.out 1).trans rfl
     have hcz33_2 : wr.cell? ⟨gb451, 2, none⟩ = some (.int .i64 a0_2) := (blk_cell BK451.out 2).trans rfl
     have hcz33_3 : wr.cell? ⟨gb451, 3, none⟩ = some (.slice A0_3 l0_3.length c0_3) := (blk_cell BK451.out 3).trans rfl
     have hcz33_4 : wr.cell? ⟨gb451, 4, none⟩ = some (.slice A0_4 l0_4.length c0_4) := (blk_cell BK451.out 4).trans rfl
     have hcz33_5 : wr.cell? ⟨gb451, 5, none⟩ = some (.slice A0_5 l0_5.length c0_5) := (blk_cell BK451.out 5).trans rfl
     have hcz33_6 : wr.cell? ⟨gb451, 6, none⟩ = some (.slice A0_6 l0_6.length c0_6) := (blk_cell BK451.out 6).trans rfl
     have hcz33_7 : wr.cell? ⟨gb451, 7, none⟩ = some (.slice A0_7 l0_7.length c0_7) := (blk_cell BK451.out 7).trans rfl
     have hfz33_0 := blk_frozen BK451.out 0
     have hfz33_1 := blk_frozen BK451.out 1
     have hfz33_2 := blk_frozen BK451.out 2
     have hfz33_3 := blk_frozen BK451.out 3
     have hfz33_4 := blk_frozen BK451.out 4
     have hfz33_5 := blk_frozen BK451.out 5
     have hfz33_6 := blk_frozen BK451.out 6
     have hfz33_7 := blk_frozen BK451.out 7
     go_wp2_with (first | ((with_reducible refine gate_dst (N := 54) rfl ?_); refine Kd.R_lit (Kd.int .i64) _ 3 ?hg (N := 54) ?hd (xs := ([(l0_4.length : Int)] : List Int)) (inner := [.int .i64 (l0_4.length : Int)]) (ok := fun _ => True) (okp := fun _ => True) ?hr ?hp (fun _ hk => hk) trivial (Below.refl _ _) (Nat.le_refl _) (by simp) ?_; (case hd => rfl); (case hg => rfl); (case hr => first | (go_simp; done) | (go_simp; rfl)); (case hp => exact (Reps.one (show Kd.M (Kd.int .i64) _ _ _ (l0_4.length : Int) [.int .i64 (l0_4.length : Int)] from rfl) (Reps.none _ _))); intro v471 w34 ho35 hb hg_ hnew_; clear hg_ hnew_; (first | rw [← Ny470.out] at ho35 | (simp only [Int.reduceToNat] at ho35; rw [← Ny470.out] at ho35)); have n0_ := Aside0.mk (Kd.R_below (mR HO_4.out) hb); have n1_ := Aside0.mk (Kd.R_lower (Kd.R_newM (M := fun k_ => (w.heap.size ≤ k_)) ho35 (below_size (mBs HB.out)) (fun k_ h_ => h_)) (below_size (mBs HB.out))); have n2_ := Aside0.mk (blk_below (g := gb451) (o := .cells #[.int .i64 a0_0, .int .i64 a0_1, .int .i64 a0_2, .slice A0_3 l0_3.length c0_3, .slice A0_4 l0_4.length c0_4, .slice A0_5 l0_5.length c0_5, .slice A0_6 l0_6.length c0_6, .slice A0_7 l0_7.length c0_7] 67 (0, 0)) (mBK BK451.out) hb); have n3_ := Aside0.mk (below_step (mBs HB.out) hb); clear HO_4 BK451 HB; have HO_4 := n0_; have HO472 := n1_; have BK451 := n2_; have HB := n3_; clear n0_ n1_ n2_ n3_ hb ho35; obtain ⟨Ao36, co36, eo36⟩ := Kd.R_slice HO_4.out; subst eo36; obtain ⟨Ao37, co37, eo37⟩ := Kd.R_slice HO472.out; subst eo37) | ((with_reducible refine gate_callee (f := 49) rfl ?_); refine goesL_ (some 55) rfl rfl Try.func49 (by kernel_rfl) rfl #[.slice Ao36 x4_1.length co36, .slice Ao37 y470.length co37] rfl mt ?_; (with_reducible refine (snap_put.calls k1 (fun k_ => some k_ = (.slice Ao36 x4_1.length co36 : Value).ownBlock) (.slice Ao36 x4_1.length co36) x4_1 _ _ y470 t473 w _ ?side1 ?side2 ?side3 ?side4 A32.out).mono ?_); (case side1 => repeat (first | (with_reducible first | exact HB.out | apply below_alloc | apply pw_below_drewN | apply below_drew1 | refine below_set ?_ GE451.out) | exact HB.out)); (case side2 => exact Kd.R_tight rfl HO_4.out); (case side3 => exact Kd.C_kept_own ((Kd.R_apart' HO472.out (Kd.R_typed HO_4.out) (by decide))) (fun k_ hk_ hs_ => (hk_.2) hs_)); (case side4 => exact (Kd.R_reads' HO472.out).2.1); rintro e w38 ⟨v474, rfl, ho0, hb, hkp⟩; refine ⟨_, rfl, ?_⟩; have n0_ := Aside0.mk (blk_kept (mBK BK451.out) hkp (fun hs_ => (fun e_ => (Kd.R_ne HO_4.out BK451.out (by decide)) e_) hs_)); have n1_ := Aside0.mk (Kd.R_mono (ok' := fun k_ => (w.heap.size ≤ k_)) (Kd.R_keptB ((Kd.R_apart' HO472.out (Kd.R_typed HO_4.out) (by decide))) hkp (fun k_ hk_ hs_ => (hk_.2) hs_)) (fun k_ hk_ => hk_.1.1.1)); have n2_ := Aside0.mk (Kd.R_mono (ok' := fun k_ => (w.heap.size ≤ k_)) ho0 (fun k_ hk_ => Or.elim hk_ (fun hs_ => (HO_4.out.1 k_ (hs_).symm)) (fun hn_ => (Nat.le_trans (below_size (mBs HB.out)) hn_)))); have n3_ := Aside0.mk (hb); clear BK451 HO472 HB HO_4; have BK451 := n0_; have HO472 := n1_; have HO475 := n2_; have HB := n3_; clear n0_ n1_ n2_ n3_ hb hkp ho0; have hcz39_0 : w38.cell? ⟨gb451, 0, none⟩ = some (.int .i64 a0_0) := (blk_cell BK451.out 0).trans rfl; have hcz39_1 : w38.cell? ⟨gb451, 1, none⟩ = some (.int .i64 a0_1) := (blk_cell BK451.out 1).trans rfl; have hcz39_2 : w38.cell? ⟨gb451, 2, none⟩ = some (.int .i64 a0_2) := (blk_cell BK451.out 2).trans rfl; have hcz39_3 : w38.cell? ⟨gb451, 3, none⟩ = some (.slice A0_3 l0_3.length c0_3) := (blk_cell BK451.out 3).trans rfl; have hcz39_4 : w38.cell? ⟨gb451, 4, none⟩ = some (.slice A0_4 l0_4.length c0_4) := (blk_cell BK451.out 4).trans rfl; have hcz39_5 : w38.cell? ⟨gb451, 5, none⟩ = some (.slice A0_5 l0_5.length c0_5) := (blk_cell BK451.out 5).trans rfl; have hcz39_6 : w38.cell? ⟨gb451, 6, none⟩ = some (.slice A0_6 l0_6.length c0_6) := (blk_cell BK451.out 6).trans rfl; have hcz39_7 : w38.cell? ⟨gb451, 7, none⟩ = some (.slice A0_7 l0_7.length c0_7) := (blk_cell BK451.out 7).trans rfl; have hfz39_0 := blk_frozen BK451.out 0; have hfz39_1 := blk_frozen BK451.out 1; have hfz39_2 := blk_frozen BK451.out 2; have hfz39_3 := blk_frozen BK451.out 3; have hfz39_4 := blk_frozen BK451.out 4; have hfz39_5 := blk_frozen BK451.out 5; have hfz39_6 := blk_frozen BK451.out 6; have hfz39_7 := blk_frozen BK451.out 7))
     go_loopg [4, 59] k1 (fun kq v4 v59 w' => ∃ (x4_2 : List Int) (x59_2 : Int), v59 = .int .i64 x59_2 ∧ Aside0 (snap_Encode.l1 kq x4_2 l0_4 (l0_4.length : Int) x59_2 a0_0 a0_1 a0_2 l0_3 l0_4 l0_5 l0_6 l0_7 = some (r1, r2)) ∧ Aside0 (kq ≤ k1) ∧ Aside0 (Kd.R (Kd.int .u8) 5 w' w.heap.size (fun k_ => (w.heap.size ≤ k_)) v4 x4_2) ∧ Aside0 (w'.heap[gb451]? = some (.cells #[.int .i64 a0_0, .int .i64 a0_1, .int .i64 a0_2, (.slice A0_3 l0_3.length c0_3), (.slice A0_4 l0_4.length c0_4), (.slice A0_5 l0_5.length c0_5), (.slice A0_6 l0_6.length c0_6), (.slice A0_7 l0_7.length c0_7)] 67 (0, 0))) ∧ Aside0 (Below w.heap.size w w'))
     case atStart => exact ⟨(t473), (0), ez, H', ⟨Nat.le_refl _⟩, ⟨mR HO475.out⟩, ⟨mBK BK451.out⟩, ⟨mBs HB.out⟩⟩
     case round =>
      clear H'
      clear c14b0 hcz33_0 hcz33_1 hcz33_2 hcz33_3 hcz33_4 hcz33_5 hcz33_6 hcz33_7 hcz39_0 hcz39_1 hcz39_2 hcz39_3 hcz39_4 hcz39_5 hcz39_6 hcz39_7 hfz33_0 hfz33_1 hfz33_2 hfz33_3 hfz33_4 hfz33_5 hfz33_6 hfz33_7 hfz39_0 hfz39_1 hfz39_2 hfz39_3 hfz39_4 hfz39_5 hfz39_6 hfz39_7
      obtain ⟨x4_2, x59_2, rfl, HA, HK2, HO_4, BK451, HB⟩ := hrel
      cases gk with
      | zero => exact absurd HA.out (by simp [snap_Encode.l1])
      | succ k2 =>
       have H := HA.out
       clear HA
       simp only [snap_Encode.l1] at H
       by_cases c40 : x59_2 < (l0_4.length : Int)
       ·rw [if_pos c40] at H
        have c40b0 : decide (x59_2 < (l0_4.length : Int)) = true := decide_eq_true c40
        clear c40
        by_cases c41 : 0 ≤ x59_2
        ·rw [if_pos c41] at H
         have c41b0 : decide (0 ≤ x59_2) = true := decide_eq_true c41
         clear c41
         by_cases c42 : x59_2 < (l0_4.length : Int)
         ·rw [if_pos c42] at H
          have c42b0 : decide (x59_2 < (l0_4.length : Int)) = true := decide_eq_true c42
          clear c42
          obtain ⟨y478, hy478⟩ : ∃ y_ : List Int, y_ = (([(rd_T95 l0_4 x59_2).f0, (rd_T95 l0_4 x59_2).f1, (rd_T95 l0_4 x59_2).f2, (rd_T95 l0_4 x59_2).f3, (rd_T95 l0_4 x59_2).f4, (rd_T95 l0_4 x59_2).f5] : List Int)) := ⟨_, rfl⟩
          replace H : ((snap_put.f k2 x4_2 y478).bind fun t481 => (snap_Encode.l1 k2 t481 l0_4 (l0_4.length : Int) (wrap64 (x59_2 + 1)) a0_0 a0_1 a0_2 l0_3 l0_4 l0_5 l0_6 l0_7)) = some (r1, r2) := mH hy478 H
          have Ny478 := Aside0.mk hy478
          clear hy478
          replace H := Option.bind_eq_some_iff.mp H
          obtain ⟨t481, A430, H⟩ := H
          replace H : (snap_Encode.l1 k2 t481 l0_4 (l0_4.length : Int) (wrap64 (x59_2 + 1)) a0_0 a0_1 a0_2 l0_3 l0_4 l0_5 l0_6 l0_7) = some (r1, r2) := H
          have A43 := Aside0.mk A430
          clear A430
          have H' := Aside0.mk H
          clear H
          have p476 : 0 ≤ (x59_2 : Int) := oda
          have q476 : x59_2 < (l0_4.length : Int) := oda
          obtain ⟨ad476, e476, hx476_0, hx476_1, hx476_2, hx476_3, hx476_4, hx476_5⟩ := at_T95 HR0_4.out x59_2 p476 q476
          cases e476
          replace hx476_0 := (HB.out.cell (World.block_lt_of_cell? w _ hx476_0)).trans hx476_0
          replace hx476_1 := (HB.out.cell (World.block_lt_of_cell? w _ hx476_1)).trans hx476_1
          replace hx476_2 := (HB.out.cell (World.block_lt_of_cell? w _ hx476_2)).trans hx476_2
          replace hx476_3 := (HB.out.cell (World.block_lt_of_cell? w _ hx476_3)).trans hx476_3
          replace hx476_4 := (HB.out.cell (World.block_lt_of_cell? w _ hx476_4)).trans hx476_4
          replace hx476_5 := (HB.out.cell (World.block_lt_of_cell? w _ hx476_5)).trans hx476_5
          replace p476 := eq_true p476
          replace q476 := eq_true q476
          go_wp2_with (first | ((with_reducible refine gate_dst (N := 8) rfl ?_); refine box_event ?hg (N := 8) ?hd (cs := #[.int .i64 0, .int .i64 0, .int .i64 0, .int .i64 0, .int .i64 0, .int .i64 0]) (t := 95) ?hr ?_; (case hd => rfl); (case hg => rfl); (case hr => first | (go_simp; done) | (go_simp; rfl)); intro gb477 hg w44 hbox hb; have n0_ := Aside0.mk (Kd.R_below (mR HO_4.out) hb); have n1_ := Aside0.mk (blk_below (g := gb451) (o := .cells #[.int .i64 a0_0, .int .i64 a0_1, .int .i64 a0_2, .slice A0_3 l0_3.length c0_3, .slice (some ad476) l0_4.length c0_4, .slice A0_5 l0_5.length c0_5, .slice A0_6 l0_6.length c0_6, .slice A0_7 l0_7.length c0_7] 67 (0, 0)) (mBK BK451.out) hb); have n2_ := Aside0.mk (below_step (mBs HB.out) hb); have n3_ := Aside0.mk (hbox); have n4_ := Aside0.mk ((by rw [hg]; exact (below_size (mBs HB.out)) : w.heap.size ≤ gb477)); have n5_ := Aside0.mk ((by rw [hg]; exact (below_size (mBs HB.out)) : w.heap.size ≤ gb477)); have n6_ := Aside0.mk ((by rw [hg]; exact Nat.ne_of_lt (blk_lt (g := gb451) (o := .cells #[.int .i64 a0_0, .int .i64 a0_1, .int .i64 a0_2, .slice A0_3 l0_3.length c0_3, .slice (some ad476) l0_4.length c0_4, .slice A0_5 l0_5.length c0_5, .slice A0_6 l0_6.length c0_6, .slice A0_7 l0_7.length c0_7] 67 (0, 0)) (mBK BK451.out)) : gb451 ≠ gb477)); have n7_ := Aside0.mk ((by rw [hg]; exact Nat.ne_of_gt (blk_lt (g := gb451) (o := .cells #[.int .i64 a0_0, .int .i64 a0_1, .int .i64 a0_2, .slice A0_3 l0_3.length c0_3, .slice (some ad476) l0_4.length c0_4, .slice A0_5 l0_5.length c0_5, .slice A0_6 l0_6.length c0_6, .slice A0_7 l0_7.length c0_7] 67 (0, 0)) (mBK BK451.out)) : gb477 ≠ gb451)); clear HO_4 BK451 HB; have HO_4 := n0_; have BK451 := n1_; have HB := n2_; have BK477 := n3_; have GW477 := n4_; have GE477 := n5_; have NB451_477 := n6_; have NB477_451 := n7_; clear n0_ n1_ n2_ n3_ n4_ n5_ n6_ n7_ hb hbox hg; have hnb45 := NB477_451.out; have hnc45 := NB451_477.out; have hcz46_0 : w44.cell? ⟨gb477, 0, none⟩ = some (.int .i64 0) := (blk_cell BK477.out 0).trans rfl; have hcz46_1 : w44.cell? ⟨gb477, 1, none⟩ = some (.int .i64 0) := (blk_cell BK477.out 1).trans rfl; have hcz46_2 : w44.cell? ⟨gb477, 2, none⟩ = some (.int .i64 0) := (blk_cell BK477.out 2).trans rfl; have hcz46_3 : w44.cell? ⟨gb477, 3, none⟩ = some (.int .i64 0) := (blk_cell BK477.out 3).trans rfl; have hcz46_4 : w44.cell? ⟨gb477, 4, none⟩ = some (.int .i64 0) := (blk_cell BK477.out 4).trans rfl; have hcz46_5 : w44.cell? ⟨gb477, 5, none⟩ = some (.int .i64 0) := (blk_cell BK477.out 5).trans rfl; have hfz46_0 := blk_frozen BK477.out 0; have hfz46_1 := blk_frozen BK477.out 1; have hfz46_2 := blk_frozen BK477.out 2; have hfz46_3 := blk_frozen BK477.out 3; have hfz46_4 := blk_frozen BK477.out 4; have hfz46_5 := blk_frozen BK477.out 5) | ((with_reducible refine gate_dst (N := 76) rfl ?_); refine Kd.R_lit (Kd.int .i64) _ 3 ?hg (N := 76) ?hd (xs := ([(rd_T95 l0_4 x59_2).f0, (rd_T95 l0_4 x59_2).f1, (rd_T95 l0_4 x59_2).f2, (rd_T95 l0_4 x59_2).f3, (rd_T95 l0_4 x59_2).f4, (rd_T95 l0_4 x59_2).f5] : List Int)) (inner := [.int .i64 ((rd_T95 l0_4 x59_2).f0), .int .i64 ((rd_T95 l0_4 x59_2).f1), .int .i64 ((rd_T95 l0_4 x59_2).f2), .int .i64 ((rd_T95 l0_4 x59_2).f3), .int .i64 ((rd_T95 l0_4 x59_2).f4), .int .i64 ((rd_T95 l0_4 x59_2).f5)]) (ok := fun _ => True) (okp := fun _ => True) ?hr ?hp (fun _ hk => hk) trivial (Below.refl _ _) (Nat.le_refl _) (by simp) ?_; (case hd => rfl); (case hg => rfl); (case hr => first | (go_simp; done) | (go_simp; rfl)); (case hp => exact (Reps.one (show Kd.M (Kd.int .i64) _ _ _ ((rd_T95 l0_4 x59_2).f0) [.int .i64 ((rd_T95 l0_4 x59_2).f0)] from rfl) (Reps.one (show Kd.M (Kd.int .i64) _ _ _ ((rd_T95 l0_4 x59_2).f1) [.int .i64 ((rd_T95 l0_4 x59_2).f1)] from rfl) (Reps.one (show Kd.M (Kd.int .i64) _ _ _ ((rd_T95 l0_4 x59_2).f2) [.int .i64 ((rd_T95 l0_4 x59_2).f2)] from rfl) (Reps.one (show Kd.M (Kd.int .i64) _ _ _ ((rd_T95 l0_4 x59_2).f3) [.int .i64 ((rd_T95 l0_4 x59_2).f3)] from rfl) (Reps.one (show Kd.M (Kd.int .i64) _ _ _ ((rd_T95 l0_4 x59_2).f4) [.int .i64 ((rd_T95 l0_4 x59_2).f4)] from rfl) (Reps.one (show Kd.M (Kd.int .i64) _ _ _ ((rd_T95 l0_4 x59_2).f5) [.int .i64 ((rd_T95 l0_4 x59_2).f5)] from rfl) (Reps.none _ _)))))))); intro v479 w47 ho48 hb hg_ hnew_; clear hg_ hnew_; (first | rw [← Ny478.out] at ho48 | (simp only [Int.reduceToNat] at ho48; rw [← Ny478.out] at ho48)); have n0_ := Aside0.mk (Kd.R_below (by (with_reducible repeat (first | apply Kd.R_alloc | apply Kd.R_drewN | apply Kd.R_drew)); exact (Kd.R_mono (Kd.R_fa gb477 5 (Kd.R_fa gb477 4 (Kd.R_fa gb477 3 (Kd.R_fa gb477 2 (Kd.R_fa gb477 1 (Kd.R_fa gb477 0 (Kd.R_types HO_4.out BK477.out (by decide)) (.int .i64 ((rd_T95 l0_4 x59_2).f0))) (.int .i64 ((rd_T95 l0_4 x59_2).f1))) (.int .i64 ((rd_T95 l0_4 x59_2).f2))) (.int .i64 ((rd_T95 l0_4 x59_2).f3))) (.int .i64 ((rd_T95 l0_4 x59_2).f4))) (.int .i64 ((rd_T95 l0_4 x59_2).f5))) (fun _ h_ => h_.1))) hb); have n1_ := Aside0.mk (Kd.R_lower (Kd.R_newM (M := fun k_ => (w.heap.size ≤ k_)) ho48 (below_size (mBs HB.out)) (fun k_ h_ => h_)) (below_size (mBs HB.out))); have n2_ := Aside0.mk (blk_below (g := gb451) (o := .cells #[.int .i64 a0_0, .int .i64 a0_1, .int .i64 a0_2, .slice A0_3 l0_3.length c0_3, .slice (some ad476) l0_4.length c0_4, .slice A0_5 l0_5.length c0_5, .slice A0_6 l0_6.length c0_6, .slice A0_7 l0_7.length c0_7] 67 (0, 0)) (by (with_reducible repeat first | apply blk_drewN | apply blk_drew | apply blk_alloc); refine blk_far ?_ NB451_477.out _; (with_reducible repeat first | apply blk_drewN | apply blk_drew | apply blk_alloc); refine blk_far ?_ NB451_477.out _; (with_reducible repeat first | apply blk_drewN | apply blk_drew | apply blk_alloc); refine blk_far ?_ NB451_477.out _; (with_reducible repeat first | apply blk_drewN | apply blk_drew | apply blk_alloc); refine blk_far ?_ NB451_477.out _; (with_reducible repeat first | apply blk_drewN | apply blk_drew | apply blk_alloc); refine blk_far ?_ NB451_477.out _; (with_reducible repeat first | apply blk_drewN | apply blk_drew | apply blk_alloc); refine blk_far ?_ NB451_477.out _; (with_reducible repeat first | apply blk_drewN | apply blk_drew | apply blk_alloc); exact BK451.out) hb); have n3_ := Aside0.mk (blk_below (g := gb477) (o := .cells #[.int .i64 ((rd_T95 l0_4 x59_2).f0), .int .i64 ((rd_T95 l0_4 x59_2).f1), .int .i64 ((rd_T95 l0_4 x59_2).f2), .int .i64 ((rd_T95 l0_4 x59_2).f3), .int .i64 ((rd_T95 l0_4 x59_2).f4), .int .i64 ((rd_T95 l0_4 x59_2).f5)] 95 (0, 0)) (by (with_reducible repeat first | apply blk_drewN | apply blk_drew | apply blk_alloc); refine blk_put (cs := #[.int .i64 ((rd_T95 l0_4 x59_2).f0), .int .i64 ((rd_T95 l0_4 x59_2).f1), .int .i64 ((rd_T95 l0_4 x59_2).f2), .int .i64 ((rd_T95 l0_4 x59_2).f3), .int .i64 ((rd_T95 l0_4 x59_2).f4), .int .i64 0]) ?_ 5 _ rfl; (with_reducible repeat first | apply blk_drewN | apply blk_drew | apply blk_alloc); refine blk_put (cs := #[.int .i64 ((rd_T95 l0_4 x59_2).f0), .int .i64 ((rd_T95 l0_4 x59_2).f1), .int .i64 ((rd_T95 l0_4 x59_2).f2), .int .i64 ((rd_T95 l0_4 x59_2).f3), .int .i64 0, .int .i64 0]) ?_ 4 _ rfl; (with_reducible repeat first | apply blk_drewN | apply blk_drew | apply blk_alloc); refine blk_put (cs := #[.int .i64 ((rd_T95 l0_4 x59_2).f0), .int .i64 ((rd_T95 l0_4 x59_2).f1), .int .i64 ((rd_T95 l0_4 x59_2).f2), .int .i64 0, .int .i64 0, .int .i64 0]) ?_ 3 _ rfl; (with_reducible repeat first | apply blk_drewN | apply blk_drew | apply blk_alloc); refine blk_put (cs := #[.int .i64 ((rd_T95 l0_4 x59_2).f0), .int .i64 ((rd_T95 l0_4 x59_2).f1), .int .i64 0, .int .i64 0, .int .i64 0, .int .i64 0]) ?_ 2 _ rfl; (with_reducible repeat first | apply blk_drewN | apply blk_drew | apply blk_alloc); refine blk_put (cs := #[.int .i64 ((rd_T95 l0_4 x59_2).f0), .int .i64 0, .int .i64 0, .int .i64 0, .int .i64 0, .int .i64 0]) ?_ 1 _ rfl; (with_reducible repeat first | apply blk_drewN | apply blk_drew | apply blk_alloc); refine blk_put (cs := #[.int .i64 0, .int .i64 0, .int .i64 0, .int .i64 0, .int .i64 0, .int .i64 0]) ?_ 0 _ rfl; (with_reducible repeat first | apply blk_drewN | apply blk_drew | apply blk_alloc); exact BK477.out) hb); have n4_ := Aside0.mk (below_step (mBs HB.out) hb); clear HO_4 BK451 BK477 HB; have HO_4 := n0_; have HO480 := n1_; have BK451 := n2_; have BK477 := n3_; have HB := n4_; clear n0_ n1_ n2_ n3_ n4_ hb ho48; obtain ⟨Ao49, co49, eo49⟩ := Kd.R_slice HO_4.out; subst eo49; obtain ⟨Ao50, co50, eo50⟩ := Kd.R_slice HO480.out; subst eo50) | ((with_reducible refine gate_callee (f := 49) rfl ?_); refine goesL_ (some 77) rfl rfl Try.func49 (by kernel_rfl) rfl #[.slice Ao49 x4_2.length co49, .slice Ao50 y478.length co50] rfl mt ?_; (with_reducible refine (snap_put.calls k2 (fun k_ => some k_ = (.slice Ao49 x4_2.length co49 : Value).ownBlock) (.slice Ao49 x4_2.length co49) x4_2 _ _ y478 t481 w _ ?side1 ?side2 ?side3 ?side4 A43.out).mono ?_); (case side1 => repeat (first | (with_reducible first | exact HB.out | apply below_alloc | apply pw_below_drewN | apply below_drew1 | refine below_set ?_ GE451.out | refine below_set ?_ GE477.out) | exact HB.out)); (case side2 => exact Kd.R_tight rfl HO_4.out); (case side3 => exact Kd.C_kept_own ((Kd.R_apart' HO480.out (Kd.R_typed HO_4.out) (by decide))) (fun k_ hk_ hs_ => (hk_.2) hs_)); (case side4 => exact (Kd.R_reads' HO480.out).2.1); rintro e w51 ⟨v482, rfl, ho0, hb, hkp⟩; refine ⟨_, rfl, ?_⟩; have n0_ := Aside0.mk (blk_kept (mBK BK451.out) hkp (fun hs_ => (fun e_ => (Kd.R_ne HO_4.out BK451.out (by decide)) e_) hs_)); have n1_ := Aside0.mk (blk_kept (mBK BK477.out) hkp (fun hs_ => (fun e_ => (Kd.R_ne HO_4.out BK477.out (by decide)) e_) hs_)); have n2_ := Aside0.mk (Kd.R_mono (ok' := fun k_ => (w.heap.size ≤ k_)) (Kd.R_keptB ((Kd.R_apart' HO480.out (Kd.R_typed HO_4.out) (by decide))) hkp (fun k_ hk_ hs_ => (hk_.2) hs_)) (fun k_ hk_ => hk_.1.1.1)); have n3_ := Aside0.mk (Kd.R_mono (ok' := fun k_ => (w.heap.size ≤ k_)) ho0 (fun k_ hk_ => Or.elim hk_ (fun hs_ => (HO_4.out.1 k_ (hs_).symm)) (fun hn_ => (Nat.le_trans (below_size (mBs HB.out)) hn_)))); have n4_ := Aside0.mk (hb); clear BK451 BK477 HO480 HB HO_4; have BK451 := n0_; have BK477 := n1_; have HO480 := n2_; have HO483 := n3_; have HB := n4_; clear n0_ n1_ n2_ n3_ n4_ hb hkp ho0))
          go_roundg k2
          case measure => have := HK1.out; have := HK2.out; omega
          case rel => exact ⟨(t481), (wrap64 (x59_2 + 1)), ez, H', ⟨by have := HK1.out; have := HK2.out; omega⟩, ⟨mR HO483.out⟩, ⟨mBK BK451.out⟩, ⟨mBs HB.out⟩⟩
         ·rw [if_neg c42] at H
          exact absurd H (by simp)
        ·rw [if_neg c41] at H
         exact absurd H (by simp)
       ·rw [if_neg c40] at H
        have c40b0 : decide (x59_2 < (l0_4.length : Int)) = false := decide_eq_false c40
        clear c40
        obtain ⟨y484, hy484⟩ : ∃ y_ : List Int, y_ = (([(l0_5.length : Int)] : List Int)) := ⟨_, rfl⟩
        replace H : ((snap_put.f k2 x4_2 y484).bind fun t487 => (snap_Encode.l2 k2 t487 l0_5 (l0_5.length : Int) 0 a0_0 a0_1 a0_2 l0_3 l0_4 l0_5 l0_6 l0_7)) = some (r1, r2) := mH hy484 H
        have Ny484 := Aside0.mk hy484
        clear hy484
        replace H := Option.bind_eq_some_iff.mp H
        obtain ⟨t487, A520, H⟩ := H
        replace H : (snap_Encode.l2 k2 t487 l0_5 (l0_5.length : Int) 0 a0_0 a0_1 a0_2 l0_3 l0_4 l0_5 l0_6 l0_7) = some (r1, r2) := H
        have A52 := Aside0.mk A520
        clear A520
        have H' := Aside0.mk H
        clear H
        have hcz53_0 : wr.cell? ⟨gb451, 0, none⟩ = some (.int .i64 a0_0) := (blk_cell BK451.out 0).trans rfl
        have hcz53_1 : wr.cell? ⟨gb451, 1, none⟩ = some (.int .i64 a0_1) := (blk_cell BK451.out 1).trans rfl
        have hcz53_2 : wr.cell? ⟨gb451, 2, none⟩ = some (.int .i64 a0_2) := (blk_cell BK451.out 2).trans rfl
        have hcz53_3 : wr.cell? ⟨gb451, 3, none⟩ = some (.slice A0_3 l0_3.length c0_3) := (blk_cell BK451.out 3).trans rfl
        have hcz53_4 : wr.cell? ⟨gb451, 4, none⟩ = some (.slice A0_4 l0_4.length c0_4) := (blk_cell BK451.out 4).trans rfl
        have hcz53_5 : wr.cell? ⟨gb451, 5, none⟩ = some (.slice A0_5 l0_5.length c0_5) := (blk_cell BK451.out 5).trans rfl
        have hcz53_6 : wr.cell? ⟨gb451, 6, none⟩ = some (.slice A0_6 l0_6.length c0_6) := (blk_cell BK451.out 6).trans rfl
        have hcz53_7 : wr.cell? ⟨gb451, 7, none⟩ = some (.slice A0_7 l0_7.length c0_7) := (blk_cell BK451.out 7).trans rfl
        have hfz53_0 := blk_frozen BK451.out 0
        have hfz53_1 := blk_frozen BK451.out 1
        have hfz53_2 := blk_frozen BK451.out 2
        have hfz53_3 := blk_frozen BK451.out 3
        have hfz53_4 := blk_frozen BK451.out 4
        have hfz53_5 := blk_frozen BK451.out 5
        have hfz53_6 := blk_frozen BK451.out 6
        have hfz53_7 := blk_frozen BK451.out 7
        go_wp2_with (first | ((with_reducible refine gate_dst (N := 83) rfl ?_); refine Kd.R_lit (Kd.int .i64) _ 3 ?hg (N := 83) ?hd (xs := ([(l0_5.length : Int)] : List Int)) (inner := [.int .i64 (l0_5.length : Int)]) (ok := fun _ => True) (okp := fun _ => True) ?hr ?hp (fun _ hk => hk) trivial (Below.refl _ _) (Nat.le_refl _) (by simp) ?_; (case hd => rfl); (case hg => rfl); (case hr => first | (go_simp; done) | (go_simp; rfl)); (case hp => exact (Reps.one (show Kd.M (Kd.int .i64) _ _ _ (l0_5.length : Int) [.int .i64 (l0_5.length : Int)] from rfl) (Reps.none _ _))); intro v485 w54 ho55 hb hg_ hnew_; clear hg_ hnew_; (first | rw [← Ny484.out] at ho55 | (simp only [Int.reduceToNat] at ho55; rw [← Ny484.out] at ho55)); have n0_ := Aside0.mk (Kd.R_below (mR HO_4.out) hb); have n1_ := Aside0.mk (Kd.R_lower (Kd.R_newM (M := fun k_ => (w.heap.size ≤ k_)) ho55 (below_size (mBs HB.out)) (fun k_ h_ => h_)) (below_size (mBs HB.out))); have n2_ := Aside0.mk (blk_below (g := gb451) (o := .cells #[.int .i64 a0_0, .int .i64 a0_1, .int .i64 a0_2, .slice A0_3 l0_3.length c0_3, .slice A0_4 l0_4.length c0_4, .slice A0_5 l0_5.length c0_5, .slice A0_6 l0_6.length c0_6, .slice A0_7 l0_7.length c0_7] 67 (0, 0)) (mBK BK451.out) hb); have n3_ := Aside0.mk (below_step (mBs HB.out) hb); clear HO_4 BK451 HB; have HO_4 := n0_; have HO486 := n1_; have BK451 := n2_; have HB := n3_; clear n0_ n1_ n2_ n3_ hb ho55; obtain ⟨Ao56, co56, eo56⟩ := Kd.R_slice HO_4.out; subst eo56; obtain ⟨Ao57, co57, eo57⟩ := Kd.R_slice HO486.out; subst eo57) | ((with_reducible refine gate_callee (f := 49) rfl ?_); refine goesL_ (some 84) rfl rfl Try.func49 (by kernel_rfl) rfl #[.slice Ao56 x4_2.length co56, .slice Ao57 y484.length co57] rfl mt ?_; (with_reducible refine (snap_put.calls k2 (fun k_ => some k_ = (.slice Ao56 x4_2.length co56 : Value).ownBlock) (.slice Ao56 x4_2.length co56) x4_2 _ _ y484 t487 w _ ?side1 ?side2 ?side3 ?side4 A52.out).mono ?_); (case side1 => repeat (first | (with_reducible first | exact HB.out | apply below_alloc | apply pw_below_drewN | apply below_drew1 | refine below_set ?_ GE451.out) | exact HB.out)); (case side2 => exact Kd.R_tight rfl HO_4.out); (case side3 => exact Kd.C_kept_own ((Kd.R_apart' HO486.out (Kd.R_typed HO_4.out) (by decide))) (fun k_ hk_ hs_ => (hk_.2) hs_)); (case side4 => exact (Kd.R_reads' HO486.out).2.1); rintro e w58 ⟨v488, rfl, ho0, hb, hkp⟩; refine ⟨_, rfl, ?_⟩; have n0_ := Aside0.mk (blk_kept (mBK BK451.out) hkp (fun hs_ => (fun e_ => (Kd.R_ne HO_4.out BK451.out (by decide)) e_) hs_)); have n1_ := Aside0.mk (Kd.R_mono (ok' := fun k_ => (w.heap.size ≤ k_)) (Kd.R_keptB ((Kd.R_apart' HO486.out (Kd.R_typed HO_4.out) (by decide))) hkp (fun k_ hk_ hs_ => (hk_.2) hs_)) (fun k_ hk_ => hk_.1.1.1)); have n2_ := Aside0.mk (Kd.R_mono (ok' := fun k_ => (w.heap.size ≤ k_)) ho0 (fun k_ hk_ => Or.elim hk_ (fun hs_ => (HO_4.out.1 k_ (hs_).symm)) (fun hn_ => (Nat.le_trans (below_size (mBs HB.out)) hn_)))); have n3_ := Aside0.mk (hb); clear BK451 HO486 HB HO_4; have BK451 := n0_; have HO486 := n1_; have HO489 := n2_; have HB := n3_; clear n0_ n1_ n2_ n3_ hb hkp ho0; have hcz59_0 : w58.cell? ⟨gb451, 0, none⟩ = some (.int .i64 a0_0) := (blk_cell BK451.out 0).trans rfl; have hcz59_1 : w58.cell? ⟨gb451, 1, none⟩ = some (.int .i64 a0_1) := (blk_cell BK451.out 1).trans rfl; have hcz59_2 : w58.cell? ⟨gb451, 2, none⟩ = some (.int .i64 a0_2) := (blk_cell BK451.out 2).trans rfl; have hcz59_3 : w58.cell? ⟨gb451, 3, none⟩ = some (.slice A0_3 l0_3.length c0_3) := (blk_cell BK451.out 3).trans rfl; have hcz59_4 : w58.cell? ⟨gb451, 4, none⟩ = some (.slice A0_4 l0_4.length c0_4) := (blk_cell BK451.out 4).trans rfl; have hcz59_5 : w58.cell? ⟨gb451, 5, none⟩ = some (.slice A0_5 l0_5.length c0_5) := (blk_cell BK451.out 5).trans rfl; have hcz59_6 : w58.cell? ⟨gb451, 6, none⟩ = some (.slice A0_6 l0_6.length c0_6) := (blk_cell BK451.out 6).trans rfl; have hcz59_7 : w58.cell? ⟨gb451, 7, none⟩ = some (.slice A0_7 l0_7.length c0_7) := (blk_cell BK451.out 7).trans rfl; have hfz59_0 := blk_frozen BK451.out 0; have hfz59_1 := blk_frozen BK451.out 1; have hfz59_2 := blk_frozen BK451.out 2; have hfz59_3 := blk_frozen BK451.out 3; have hfz59_4 := blk_frozen BK451.out 4; have hfz59_5 := blk_frozen BK451.out 5; have hfz59_6 := blk_frozen BK451.out 6; have hfz59_7 := blk_frozen BK451.out 7))
        go_loopg [4, 88] k2 (fun kq v4 v88 w' => ∃ (x4_3 : List Int) (x88_3 : Int), v88 = .int .i64 x88_3 ∧ Aside0 (snap_Encode.l2 kq x4_3 l0_5 (l0_5.length : Int) x88_3 a0_0 a0_1 a0_2 l0_3 l0_4 l0_5 l0_6 l0_7 = some (r1, r2)) ∧ Aside0 (kq ≤ k2) ∧ Aside0 (Kd.R (Kd.int .u8) 5 w' w.heap.size (fun k_ => (w.heap.size ≤ k_)) v4 x4_3) ∧ Aside0 (w'.heap[gb451]? = some (.cells #[.int .i64 a0_0, .int .i64 a0_1, .int .i64 a0_2, (.slice A0_3 l0_3.length c0_3), (.slice A0_4 l0_4.length c0_4), (.slice A0_5 l0_5.length c0_5), (.slice A0_6 l0_6.length c0_6), (.slice A0_7 l0_7.length c0_7)] 67 (0, 0))) ∧ Aside0 (Below w.heap.size w w'))
        case atStart => exact ⟨(t487), (0), ez, H', ⟨Nat.le_refl _⟩, ⟨mR HO489.out⟩, ⟨mBK BK451.out⟩, ⟨mBs HB.out⟩⟩
        case round =>
         clear H'
         clear c40b0 hcz53_0 hcz53_1 hcz53_2 hcz53_3 hcz53_4 hcz53_5 hcz53_6 hcz53_7 hcz59_0 hcz59_1 hcz59_2 hcz59_3 hcz59_4 hcz59_5 hcz59_6 hcz59_7 hfz53_0 hfz53_1 hfz53_2 hfz53_3 hfz53_4 hfz53_5 hfz53_6 hfz53_7 hfz59_0 hfz59_1 hfz59_2 hfz59_3 hfz59_4 hfz59_5 hfz59_6 hfz59_7
         obtain ⟨x4_3, x88_3, rfl, HA, HK3, HO_4, BK451, HB⟩ := hrel
         cases gk with
         | zero => exact absurd HA.out (by simp [snap_Encode.l2])
         | succ k3 =>
          have H := HA.out
          clear HA
          simp only [snap_Encode.l2] at H
          by_cases c60 : x88_3 < (l0_5.length : Int)
          ·rw [if_pos c60] at H
           have c60b0 : decide (x88_3 < (l0_5.length : Int)) = true := decide_eq_true c60
           clear c60
           by_cases c61 : 0 ≤ x88_3
           ·rw [if_pos c61] at H
            have c61b0 : decide (0 ≤ x88_3) = true := decide_eq_true c61
            clear c61
            by_cases c62 : x88_3 < (l0_5.length : Int)
            ·rw [if_pos c62] at H
             have c62b0 : decide (x88_3 < (l0_5.length : Int)) = true := decide_eq_true c62
             clear c62
             obtain ⟨y492, hy492⟩ : ∃ y_ : List Int, y_ = (([(rd_T97 l0_5 x88_3).f0, (rd_T97 l0_5 x88_3).f1, (rd_T97 l0_5 x88_3).f2] : List Int)) := ⟨_, rfl⟩
             replace H : ((snap_put.f k3 x4_3 y492).bind fun t495 => (snap_Encode.l2 k3 t495 l0_5 (l0_5.length : Int) (wrap64 (x88_3 + 1)) a0_0 a0_1 a0_2 l0_3 l0_4 l0_5 l0_6 l0_7)) = some (r1, r2) := mH hy492 H
             have Ny492 := Aside0.mk hy492
             clear hy492
             replace H := Option.bind_eq_some_iff.mp H
             obtain ⟨t495, A630, H⟩ := H
             replace H : (snap_Encode.l2 k3 t495 l0_5 (l0_5.length : Int) (wrap64 (x88_3 + 1)) a0_0 a0_1 a0_2 l0_3 l0_4 l0_5 l0_6 l0_7) = some (r1, r2) := H
             have A63 := Aside0.mk A630
             clear A630
             have H' := Aside0.mk H
             clear H
             have p490 : 0 ≤ (x88_3 : Int) := oda
             have q490 : x88_3 < (l0_5.length : Int) := oda
             obtain ⟨ad490, e490, hx490_0, hx490_1, hx490_2⟩ := at_T97 HR0_5.out x88_3 p490 q490
             cases e490
             replace hx490_0 := (HB.out.cell (World.block_lt_of_cell? w _ hx490_0)).trans hx490_0
             replace hx490_1 := (HB.out.cell (World.block_lt_of_cell? w _ hx490_1)).trans hx490_1
             replace hx490_2 := (HB.out.cell (World.block_lt_of_cell? w _ hx490_2)).trans hx490_2
             replace p490 := eq_true p490
             replace q490 := eq_true q490
             go_wp2_with (first | ((with_reducible refine gate_dst (N := 10) rfl ?_); refine box_event ?hg (N := 10) ?hd (cs := #[.int .i64 0, .int .i64 0, .int .i64 0]) (t := 97) ?hr ?_; (case hd => rfl); (case hg => rfl); (case hr => first | (go_simp; done) | (go_simp; rfl)); intro gb491 hg w64 hbox hb; have n0_ := Aside0.mk (Kd.R_below (mR HO_4.out) hb); have n1_ := Aside0.mk (blk_below (g := gb451) (o := .cells #[.int .i64 a0_0, .int .i64 a0_1, .int .i64 a0_2, .slice A0_3 l0_3.length c0_3, .slice A0_4 l0_4.length c0_4, .slice (some ad490) l0_5.length c0_5, .slice A0_6 l0_6.length c0_6, .slice A0_7 l0_7.length c0_7] 67 (0, 0)) (mBK BK451.out) hb); have n2_ := Aside0.mk (below_step (mBs HB.out) hb); have n3_ := Aside0.mk (hbox); have n4_ := Aside0.mk ((by rw [hg]; exact (below_size (mBs HB.out)) : w.heap.size ≤ gb491)); have n5_ := Aside0.mk ((by rw [hg]; exact (below_size (mBs HB.out)) : w.heap.size ≤ gb491)); have n6_ := Aside0.mk ((by rw [hg]; exact Nat.ne_of_lt (blk_lt (g := gb451) (o := .cells #[.int .i64 a0_0, .int .i64 a0_1, .int .i64 a0_2, .slice A0_3 l0_3.length c0_3, .slice A0_4 l0_4.length c0_4, .slice (some ad490) l0_5.length c0_5, .slice A0_6 l0_6.length c0_6, .slice A0_7 l0_7.length c0_7] 67 (0, 0)) (mBK BK451.out)) : gb451 ≠ gb491)); have n7_ := Aside0.mk ((by rw [hg]; exact Nat.ne_of_gt (blk_lt (g := gb451) (o := .cells #[.int .i64 a0_0, .int .i64 a0_1, .int .i64 a0_2, .slice A0_3 l0_3.length c0_3, .slice A0_4 l0_4.length c0_4, .slice (some ad490) l0_5.length c0_5, .slice A0_6 l0_6.length c0_6, .slice A0_7 l0_7.length c0_7] 67 (0, 0)) (mBK BK451.out)) : gb491 ≠ gb451)); clear HO_4 BK451 HB; have HO_4 := n0_; have BK451 := n1_; have HB := n2_; have BK491 := n3_; have GW491 := n4_; have GE491 := n5_; have NB451_491 := n6_; have NB491_451 := n7_; clear n0_ n1_ n2_ n3_ n4_ n5_ n6_ n7_ hb hbox hg; have hnb65 := NB491_451.out; have hnc65 := NB451_491.out; have hcz66_0 : w64.cell? ⟨gb491, 0, none⟩ = some (.int .i64 0) := (blk_cell BK491.out 0).trans rfl; have hcz66_1 : w64.cell? ⟨gb491, 1, none⟩ = some (.int .i64 0) := (blk_cell BK491.out 1).trans rfl; have hcz66_2 : w64.cell? ⟨gb491, 2, none⟩ = some (.int .i64 0) := (blk_cell BK491.out 2).trans rfl; have hfz66_0 := blk_frozen BK491.out 0; have hfz66_1 := blk_frozen BK491.out 1; have hfz66_2 := blk_frozen BK491.out 2) | ((with_reducible refine gate_dst (N := 99) rfl ?_); refine Kd.R_lit (Kd.int .i64) _ 3 ?hg (N := 99) ?hd (xs := ([(rd_T97 l0_5 x88_3).f0, (rd_T97 l0_5 x88_3).f1, (rd_T97 l0_5 x88_3).f2] : List Int)) (inner := [.int .i64 ((rd_T97 l0_5 x88_3).f0), .int .i64 ((rd_T97 l0_5 x88_3).f1), .int .i64 ((rd_T97 l0_5 x88_3).f2)]) (ok := fun _ => True) (okp := fun _ => True) ?hr ?hp (fun _ hk => hk) trivial (Below.refl _ _) (Nat.le_refl _) (by simp) ?_; (case hd => rfl); (case hg => rfl); (case hr => first | (go_simp; done) | (go_simp; rfl)); (case hp => exact (Reps.one (show Kd.M (Kd.int .i64) _ _ _ ((rd_T97 l0_5 x88_3).f0) [.int .i64 ((rd_T97 l0_5 x88_3).f0)] from rfl) (Reps.one (show Kd.M (Kd.int .i64) _ _ _ ((rd_T97 l0_5 x88_3).f1) [.int .i64 ((rd_T97 l0_5 x88_3).f1)] from rfl) (Reps.one (show Kd.M (Kd.int .i64) _ _ _ ((rd_T97 l0_5 x88_3).f2) [.int .i64 ((rd_T97 l0_5 x88_3).f2)] from rfl) (Reps.none _ _))))); intro v493 w67 ho68 hb hg_ hnew_; clear hg_ hnew_; (first | rw [← Ny492.out] at ho68 | (simp only [Int.reduceToNat] at ho68; rw [← Ny492.out] at ho68)); have n0_ := Aside0.mk (Kd.R_below (by (with_reducible repeat (first | apply Kd.R_alloc | apply Kd.R_drewN | apply Kd.R_drew)); exact (Kd.R_mono (Kd.R_fa gb491 2 (Kd.R_fa gb491 1 (Kd.R_fa gb491 0 (Kd.R_types HO_4.out BK491.out (by decide)) (.int .i64 ((rd_T97 l0_5 x88_3).f0))) (.int .i64 ((rd_T97 l0_5 x88_3).f1))) (.int .i64 ((rd_T97 l0_5 x88_3).f2))) (fun _ h_ => h_.1))) hb); have n1_ := Aside0.mk (Kd.R_lower (Kd.R_newM (M := fun k_ => (w.heap.size ≤ k_)) ho68 (below_size (mBs HB.out)) (fun k_ h_ => h_)) (below_size (mBs HB.out))); have n2_ := Aside0.mk (blk_below (g := gb451) (o := .cells #[.int .i64 a0_0, .int .i64 a0_1, .int .i64 a0_2, .slice A0_3 l0_3.length c0_3, .slice A0_4 l0_4.length c0_4, .slice (some ad490) l0_5.length c0_5, .slice A0_6 l0_6.length c0_6, .slice A0_7 l0_7.length c0_7] 67 (0, 0)) (by (with_reducible repeat first | apply blk_drewN | apply blk_drew | apply blk_alloc); refine blk_far ?_ NB451_491.out _; (with_reducible repeat first | apply blk_drewN | apply blk_drew | apply blk_alloc); refine blk_far ?_ NB451_491.out _; (with_reducible repeat first | apply blk_drewN | apply blk_drew | apply blk_alloc); refine blk_far ?_ NB451_491.out _; (with_reducible repeat first | apply blk_drewN | apply blk_drew | apply blk_alloc); exact BK451.out) hb); have n3_ := Aside0.mk (blk_below (g := gb491) (o := .cells #[.int .i64 ((rd_T97 l0_5 x88_3).f0), .int .i64 ((rd_T97 l0_5 x88_3).f1), .int .i64 ((rd_T97 l0_5 x88_3).f2)] 97 (0, 0)) (by (with_reducible repeat first | apply blk_drewN | apply blk_drew | apply blk_alloc); refine blk_put (cs := #[.int .i64 ((rd_T97 l0_5 x88_3).f0), .int .i64 ((rd_T97 l0_5 x88_3).f1), .int .i64 0]) ?_ 2 _ rfl; (with_reducible repeat first | apply blk_drewN | apply blk_drew | apply blk_alloc); refine blk_put (cs := #[.int .i64 ((rd_T97 l0_5 x88_3).f0), .int .i64 0, .int .i64 0]) ?_ 1 _ rfl; (with_reducible repeat first | apply blk_drewN | apply blk_drew | apply blk_alloc); refine blk_put (cs := #[.int .i64 0, .int .i64 0, .int .i64 0]) ?_ 0 _ rfl; (with_reducible repeat first | apply blk_drewN | apply blk_drew | apply blk_alloc); exact BK491.out) hb); have n4_ := Aside0.mk (below_step (mBs HB.out) hb); clear HO_4 BK451 BK491 HB; have HO_4 := n0_; have HO494 := n1_; have BK451 := n2_; have BK491 := n3_; have HB := n4_; clear n0_ n1_ n2_ n3_ n4_ hb ho68; obtain ⟨Ao69, co69, eo69⟩ := Kd.R_slice HO_4.out; subst eo69; obtain ⟨Ao70, co70, eo70⟩ := Kd.R_slice HO494.out; subst eo70) | ((with_reducible refine gate_callee (f := 49) rfl ?_); refine goesL_ (some 100) rfl rfl Try.func49 (by kernel_rfl) rfl #[.slice Ao69 x4_3.length co69, .slice Ao70 y492.length co70] rfl mt ?_; (with_reducible refine (snap_put.calls k3 (fun k_ => some k_ = (.slice Ao69 x4_3.length co69 : Value).ownBlock) (.slice Ao69 x4_3.length co69) x4_3 _ _ y492 t495 w _ ?side1 ?side2 ?side3 ?side4 A63.out).mono ?_); (case side1 => repeat (first | (with_reducible first | exact HB.out | apply below_alloc | apply pw_below_drewN | apply below_drew1 | refine below_set ?_ GE451.out | refine below_set ?_ GE491.out) | exact HB.out)); (case side2 => exact Kd.R_tight rfl HO_4.out); (case side3 => exact Kd.C_kept_own ((Kd.R_apart' HO494.out (Kd.R_typed HO_4.out) (by decide))) (fun k_ hk_ hs_ => (hk_.2) hs_)); (case side4 => exact (Kd.R_reads' HO494.out).2.1); rintro e w71 ⟨v496, rfl, ho0, hb, hkp⟩; refine ⟨_, rfl, ?_⟩; have n0_ := Aside0.mk (blk_kept (mBK BK451.out) hkp (fun hs_ => (fun e_ => (Kd.R_ne HO_4.out BK451.out (by decide)) e_) hs_)); have n1_ := Aside0.mk (blk_kept (mBK BK491.out) hkp (fun hs_ => (fun e_ => (Kd.R_ne HO_4.out BK491.out (by decide)) e_) hs_)); have n2_ := Aside0.mk (Kd.R_mono (ok' := fun k_ => (w.heap.size ≤ k_)) (Kd.R_keptB ((Kd.R_apart' HO494.out (Kd.R_typed HO_4.out) (by decide))) hkp (fun k_ hk_ hs_ => (hk_.2) hs_)) (fun k_ hk_ => hk_.1.1.1)); have n3_ := Aside0.mk (Kd.R_mono (ok' := fun k_ => (w.heap.size ≤ k_)) ho0 (fun k_ hk_ => Or.elim hk_ (fun hs_ => (HO_4.out.1 k_ (hs_).symm)) (fun hn_ => (Nat.le_trans (below_size (mBs HB.out)) hn_)))); have n4_ := Aside0.mk (hb); clear BK451 BK491 HO494 HB HO_4; have BK451 := n0_; have BK491 := n1_; have HO494 := n2_; have HO497 := n3_; have HB := n4_; clear n0_ n1_ n2_ n3_ n4_ hb hkp ho0))
             go_roundg k3
             case measure => have := HK1.out; have := HK2.out; have := HK3.out; omega
             case rel => exact ⟨(t495), (wrap64 (x88_3 + 1)), ez, H', ⟨by have := HK1.out; have := HK2.out; have := HK3.out; omega⟩, ⟨mR HO497.out⟩, ⟨mBK BK451.out⟩, ⟨mBs HB.out⟩⟩
            ·rw [if_neg c62] at H
             exact absurd H (by simp)
           ·rw [if_neg c61] at H
            exact absurd H (by simp)
          ·rw [if_neg c60] at H
           have c60b0 : decide (x88_3 < (l0_5.length : Int)) = false := decide_eq_false c60
           clear c60
           obtain ⟨y498, hy498⟩ : ∃ y_ : List Int, y_ = (([(l0_6.length : Int)] : List Int)) := ⟨_, rfl⟩
           replace H : ((snap_put.f k3 x4_3 y498).bind fun t501 => (snap_Encode.l3 k3 t501 l0_6 (l0_6.length : Int) 0 a0_0 a0_1 a0_2 l0_3 l0_4 l0_5 l0_6 l0_7)) = some (r1, r2) := mH hy498 H
           have Ny498 := Aside0.mk hy498
           clear hy498
           replace H := Option.bind_eq_some_iff.mp H
           obtain ⟨t501, A720, H⟩ := H
           replace H : (snap_Encode.l3 k3 t501 l0_6 (l0_6.length : Int) 0 a0_0 a0_1 a0_2 l0_3 l0_4 l0_5 l0_6 l0_7) = some (r1, r2) := H
           have A72 := Aside0.mk A720
           clear A720
           have H' := Aside0.mk H
           clear H
           have hcz73_0 : wr.cell? ⟨gb451, 0, none⟩ = some (.int .i64 a0_0) := (blk_cell BK451.out 0).trans rfl
           have hcz73_1 : wr.cell? ⟨gb451, 1, none⟩ = some (.int .i64 a0_1) := (blk_cell BK451.out 1).trans rfl
           have hcz73_2 : wr.cell? ⟨gb451, 2, none⟩ = some (.int .i64 a0_2) := (blk_cell BK451.out 2).trans rfl
           have hcz73_3 : wr.cell? ⟨gb451, 3, none⟩ = some (.slice A0_3 l0_3.length c0_3) := (blk_cell BK451.out 3).trans rfl
           have hcz73_4 : wr.cell? ⟨gb451, 4, none⟩ = some (.slice A0_4 l0_4.length c0_4) := (blk_cell BK451.out 4).trans rfl
           have hcz73_5 : wr.cell? ⟨gb451, 5, none⟩ = some (.slice A0_5 l0_5.length c0_5) := (blk_cell BK451.out 5).trans rfl
           have hcz73_6 : wr.cell? ⟨gb451, 6, none⟩ = some (.slice A0_6 l0_6.length c0_6) := (blk_cell BK451.out 6).trans rfl
           have hcz73_7 : wr.cell? ⟨gb451, 7, none⟩ = some (.slice A0_7 l0_7.length c0_7) := (blk_cell BK451.out 7).trans rfl
           have hfz73_0 := blk_frozen BK451.out 0
           have hfz73_1 := blk_frozen BK451.out 1
           have hfz73_2 := blk_frozen BK451.out 2
           have hfz73_3 := blk_frozen BK451.out 3
           have hfz73_4 := blk_frozen BK451.out 4
           have hfz73_5 := blk_frozen BK451.out 5
           have hfz73_6 := blk_frozen BK451.out 6
           have hfz73_7 := blk_frozen BK451.out 7
           go_wp2_with (first | ((with_reducible refine gate_dst (N := 106) rfl ?_); refine Kd.R_lit (Kd.int .i64) _ 3 ?hg (N := 106) ?hd (xs := ([(l0_6.length : Int)] : List Int)) (inner := [.int .i64 (l0_6.length : Int)]) (ok := fun _ => True) (okp := fun _ => True) ?hr ?hp (fun _ hk => hk) trivial (Below.refl _ _) (Nat.le_refl _) (by simp) ?_; (case hd => rfl); (case hg => rfl); (case hr => first | (go_simp; done) | (go_simp; rfl)); (case hp => exact (Reps.one (show Kd.M (Kd.int .i64) _ _ _ (l0_6.length : Int) [.int .i64 (l0_6.length : Int)] from rfl) (Reps.none _ _))); intro v499 w74 ho75 hb hg_ hnew_; clear hg_ hnew_; (first | rw [← Ny498.out] at ho75 | (simp only [Int.reduceToNat] at ho75; rw [← Ny498.out] at ho75)); have n0_ := Aside0.mk (Kd.R_below (mR HO_4.out) hb); have n1_ := Aside0.mk (Kd.R_lower (Kd.R_newM (M := fun k_ => (w.heap.size ≤ k_)) ho75 (below_size (mBs HB.out)) (fun k_ h_ => h_)) (below_size (mBs HB.out))); have n2_ := Aside0.mk (blk_below (g := gb451) (o := .cells #[.int .i64 a0_0, .int .i64 a0_1, .int .i64 a0_2, .slice A0_3 l0_3.length c0_3, .slice A0_4 l0_4.length c0_4, .slice A0_5 l0_5.length c0_5, .slice A0_6 l0_6.length c0_6, .slice A0_7 l0_7.length c0_7] 67 (0, 0)) (mBK BK451.out) hb); have n3_ := Aside0.mk (below_step (mBs HB.out) hb); clear HO_4 BK451 HB; have HO_4 := n0_; have HO500 := n1_; have BK451 := n2_; have HB := n3_; clear n0_ n1_ n2_ n3_ hb ho75; obtain ⟨Ao76, co76, eo76⟩ := Kd.R_slice HO_4.out; subst eo76; obtain ⟨Ao77, co77, eo77⟩ := Kd.R_slice HO500.out; subst eo77) | ((with_reducible refine gate_callee (f := 49) rfl ?_); refine goesL_ (some 107) rfl rfl Try.func49 (by kernel_rfl) rfl #[.slice Ao76 x4_3.length co76, .slice Ao77 y498.length co77] rfl mt ?_; (with_reducible refine (snap_put.calls k3 (fun k_ => some k_ = (.slice Ao76 x4_3.length co76 : Value).ownBlock) (.slice Ao76 x4_3.length co76) x4_3 _ _ y498 t501 w _ ?side1 ?side2 ?side3 ?side4 A72.out).mono ?_); (case side1 => repeat (first | (with_reducible first | exact HB.out | apply below_alloc | apply pw_below_drewN | apply below_drew1 | refine below_set ?_ GE451.out) | exact HB.out)); (case side2 => exact Kd.R_tight rfl HO_4.out); (case side3 => exact Kd.C_kept_own ((Kd.R_apart' HO500.out (Kd.R_typed HO_4.out) (by decide))) (fun k_ hk_ hs_ => (hk_.2) hs_)); (case side4 => exact (Kd.R_reads' HO500.out).2.1); rintro e w78 ⟨v502, rfl, ho0, hb, hkp⟩; refine ⟨_, rfl, ?_⟩; have n0_ := Aside0.mk (blk_kept (mBK BK451.out) hkp (fun hs_ => (fun e_ => (Kd.R_ne HO_4.out BK451.out (by decide)) e_) hs_)); have n1_ := Aside0.mk (Kd.R_mono (ok' := fun k_ => (w.heap.size ≤ k_)) (Kd.R_keptB ((Kd.R_apart' HO500.out (Kd.R_typed HO_4.out) (by decide))) hkp (fun k_ hk_ hs_ => (hk_.2) hs_)) (fun k_ hk_ => hk_.1.1.1)); have n2_ := Aside0.mk (Kd.R_mono (ok' := fun k_ => (w.heap.size ≤ k_)) ho0 (fun k_ hk_ => Or.elim hk_ (fun hs_ => (HO_4.out.1 k_ (hs_).symm)) (fun hn_ => (Nat.le_trans (below_size (mBs HB.out)) hn_)))); have n3_ := Aside0.mk (hb); clear BK451 HO500 HB HO_4; have BK451 := n0_; have HO500 := n1_; have HO503 := n2_; have HB := n3_; clear n0_ n1_ n2_ n3_ hb hkp ho0; have hcz79_0 : w78.cell? ⟨gb451, 0, none⟩ = some (.int .i64 a0_0) := (blk_cell BK451.out 0).trans rfl; have hcz79_1 : w78.cell? ⟨gb451, 1, none⟩ = some (.int .i64 a0_1) := (blk_cell BK451.out 1).trans rfl; have hcz79_2 : w78.cell? ⟨gb451, 2, none⟩ = some (.int .i64 a0_2) := (blk_cell BK451.out 2).trans rfl; have hcz79_3 : w78.cell? ⟨gb451, 3, none⟩ = some (.slice A0_3 l0_3.length c0_3) := (blk_cell BK451.out 3).trans rfl; have hcz79_4 : w78.cell? ⟨gb451, 4, none⟩ = some (.slice A0_4 l0_4.length c0_4) := (blk_cell BK451.out 4).trans rfl; have hcz79_5 : w78.cell? ⟨gb451, 5, none⟩ = some (.slice A0_5 l0_5.length c0_5) := (blk_cell BK451.out 5).trans rfl; have hcz79_6 : w78.cell? ⟨gb451, 6, none⟩ = some (.slice A0_6 l0_6.length c0_6) := (blk_cell BK451.out 6).trans rfl; have hcz79_7 : w78.cell? ⟨gb451, 7, none⟩ = some (.slice A0_7 l0_7.length c0_7) := (blk_cell BK451.out 7).trans rfl; have hfz79_0 := blk_frozen BK451.out 0; have hfz79_1 := blk_frozen BK451.out 1; have hfz79_2 := blk_frozen BK451.out 2; have hfz79_3 := blk_frozen BK451.out 3; have hfz79_4 := blk_frozen BK451.out 4; have hfz79_5 := blk_frozen BK451.out 5; have hfz79_6 := blk_frozen BK451.out 6; have hfz79_7 := blk_frozen BK451.out 7))
           go_loopg [4, 111] k3 (fun kq v4 v111 w' => ∃ (x4_4 : List Int) (x111_4 : Int), v111 = .int .i64 x111_4 ∧ Aside0 (snap_Encode.l3 kq x4_4 l0_6 (l0_6.length : Int) x111_4 a0_0 a0_1 a0_2 l0_3 l0_4 l0_5 l0_6 l0_7 = some (r1, r2)) ∧ Aside0 (kq ≤ k3) ∧ Aside0 (Kd.R (Kd.int .u8) 5 w' w.heap.size (fun k_ => (w.heap.size ≤ k_)) v4 x4_4) ∧ Aside0 (w'.heap[gb451]? = some (.cells #[.int .i64 a0_0, .int .i64 a0_1, .int .i64 a0_2, (.slice A0_3 l0_3.length c0_3), (.slice A0_4 l0_4.length c0_4), (.slice A0_5 l0_5.length c0_5), (.slice A0_6 l0_6.length c0_6), (.slice A0_7 l0_7.length c0_7)] 67 (0, 0))) ∧ Aside0 (Below w.heap.size w w'))
           case atStart => exact ⟨(t501), (0), ez, H', ⟨Nat.le_refl _⟩, ⟨mR HO503.out⟩, ⟨mBK BK451.out⟩, ⟨mBs HB.out⟩⟩
           case round =>
            clear H'
            clear c60b0 hcz73_0 hcz73_1 hcz73_2 hcz73_3 hcz73_4 hcz73_5 hcz73_6 hcz73_7 hcz79_0 hcz79_1 hcz79_2 hcz79_3 hcz79_4 hcz79_5 hcz79_6 hcz79_7 hfz73_0 hfz73_1 hfz73_2 hfz73_3 hfz73_4 hfz73_5 hfz73_6 hfz73_7 hfz79_0 hfz79_1 hfz79_2 hfz79_3 hfz79_4 hfz79_5 hfz79_6 hfz79_7
            obtain ⟨x4_4, x111_4, rfl, HA, HK4, HO_4, BK451, HB⟩ := hrel
            cases gk with
            | zero => exact absurd HA.out (by simp [snap_Encode.l3])
            | succ k4 =>
             have H := HA.out
             clear HA
             simp only [snap_Encode.l3] at H
             by_cases c80 : x111_4 < (l0_6.length : Int)
             ·rw [if_pos c80] at H
              have c80b0 : decide (x111_4 < (l0_6.length : Int)) = true := decide_eq_true c80
              clear c80
              by_cases c81 : 0 ≤ x111_4
              ·rw [if_pos c81] at H
               have c81b0 : decide (0 ≤ x111_4) = true := decide_eq_true c81
               clear c81
               by_cases c82 : x111_4 < (l0_6.length : Int)
               ·rw [if_pos c82] at H
                have c82b0 : decide (x111_4 < (l0_6.length : Int)) = true := decide_eq_true c82
                clear c82
                obtain ⟨y506, hy506⟩ : ∃ y_ : List Int, y_ = (([(rd_T100 l0_6 x111_4).f0, (rd_T100 l0_6 x111_4).f1, (rd_T100 l0_6 x111_4).f2, (rd_T100 l0_6 x111_4).f3, (rd_T100 l0_6 x111_4).f4, (rd_T100 l0_6 x111_4).f5, (rd_T100 l0_6 x111_4).f6, (rd_T100 l0_6 x111_4).f7, (rd_T100 l0_6 x111_4).f8, (rd_T100 l0_6 x111_4).f9, (rd_T100 l0_6 x111_4).f10, (((rd_T100 l0_6 x111_4).f11).length : Int)] : List Int)) := ⟨_, rfl⟩
                replace H : ((snap_put.f k4 x4_4 y506).bind fun t509 => (snap_Encode.l4 k4 t509 l0_6 (l0_6.length : Int) x111_4 ((rd_T100 l0_6 x111_4).f11) (((rd_T100 l0_6 x111_4).f11).length : Int) 0 a0_0 a0_1 a0_2 l0_3 l0_4 l0_5 l0_6 l0_7)) = some (r1, r2) := mH hy506 H
                have Ny506 := Aside0.mk hy506
                clear hy506
                replace H := Option.bind_eq_some_iff.mp H
                obtain ⟨t509, A830, H⟩ := H
                replace H : (snap_Encode.l4 k4 t509 l0_6 (l0_6.length : Int) x111_4 ((rd_T100 l0_6 x111_4).f11) (((rd_T100 l0_6 x111_4).f11).length : Int) 0 a0_0 a0_1 a0_2 l0_3 l0_4 l0_5 l0_6 l0_7) = some (r1, r2) := H
                have A83 := Aside0.mk A830
                clear A830
                have H' := Aside0.mk H
                clear H
                have p504 : 0 ≤ (x111_4 : Int) := oda
                have q504 : x111_4 < (l0_6.length : Int) := oda
                obtain ⟨ad504, A504_11, c504_11, e504, hx504_0, hx504_1, hx504_2, hx504_3, hx504_4, hx504_5, hx504_6, hx504_7, hx504_8, hx504_9, hx504_10, hx504_11, hl504_11, hi504_11⟩ := at_T100 HR0_6.out x111_4 p504 q504
                cases e504
                replace hx504_0 := (HB.out.cell (World.block_lt_of_cell? w _ hx504_0)).trans hx504_0
                replace hx504_1 := (HB.out.cell (World.block_lt_of_cell? w _ hx504_1)).trans hx504_1
                replace hx504_2 := (HB.out.cell (World.block_lt_of_cell? w _ hx504_2)).trans hx504_2
                replace hx504_3 := (HB.out.cell (World.block_lt_of_cell? w _ hx504_3)).trans hx504_3
                replace hx504_4 := (HB.out.cell (World.block_lt_of_cell? w _ hx504_4)).trans hx504_4
                replace hx504_5 := (HB.out.cell (World.block_lt_of_cell? w _ hx504_5)).trans hx504_5
                replace hx504_6 := (HB.out.cell (World.block_lt_of_cell? w _ hx504_6)).trans hx504_6
                replace hx504_7 := (HB.out.cell (World.block_lt_of_cell? w _ hx504_7)).trans hx504_7
                replace hx504_8 := (HB.out.cell (World.block_lt_of_cell? w _ hx504_8)).trans hx504_8
                replace hx504_9 := (HB.out.cell (World.block_lt_of_cell? w _ hx504_9)).trans hx504_9
                replace hx504_10 := (HB.out.cell (World.block_lt_of_cell? w _ hx504_10)).trans hx504_10
                replace hx504_11 := (HB.out.cell (World.block_lt_of_cell? w _ hx504_11)).trans hx504_11
                have HR504_11 := Aside0.mk hi504_11
                have HC504_11 := Aside0.mk hl504_11
                clear hi504_11 hl504_11
                replace p504 := eq_true p504
                replace q504 := eq_true q504
                go_wp2_with (first | ((with_reducible refine gate_dst (N := 12) rfl ?_); refine box_event ?hg (N := 12) ?hd (cs := #[.int .i64 0, .int .i64 0, .int .i64 0, .int .i64 0, .int .i64 0, .int .i64 0, .int .i64 0, .int .i64 0, .int .i64 0, .int .i64 0, .int .i64 0, .slice none 0 0]) (t := 100) ?hr ?_; (case hd => rfl); (case hg => rfl); (case hr => first | (go_simp; done) | (go_simp; rfl)); intro gb505 hg w84 hbox hb; have n0_ := Aside0.mk (Kd.R_below (mR HO_4.out) hb); have n1_ := Aside0.mk (blk_below (g := gb451) (o := .cells #[.int .i64 a0_0, .int .i64 a0_1, .int .i64 a0_2, .slice A0_3 l0_3.length c0_3, .slice A0_4 l0_4.length c0_4, .slice A0_5 l0_5.length c0_5, .slice (some ad504) l0_6.length c0_6, .slice A0_7 l0_7.length c0_7] 67 (0, 0)) (mBK BK451.out) hb); have n2_ := Aside0.mk (below_step (mBs HB.out) hb); have n3_ := Aside0.mk (hbox); have n4_ := Aside0.mk ((by rw [hg]; exact (below_size (mBs HB.out)) : w.heap.size ≤ gb505)); have n5_ := Aside0.mk ((by rw [hg]; exact (below_size (mBs HB.out)) : w.heap.size ≤ gb505)); have n6_ := Aside0.mk ((by rw [hg]; exact Nat.ne_of_lt (blk_lt (g := gb451) (o := .cells #[.int .i64 a0_0, .int .i64 a0_1, .int .i64 a0_2, .slice A0_3 l0_3.length c0_3, .slice A0_4 l0_4.length c0_4, .slice A0_5 l0_5.length c0_5, .slice (some ad504) l0_6.length c0_6, .slice A0_7 l0_7.length c0_7] 67 (0, 0)) (mBK BK451.out)) : gb451 ≠ gb505)); have n7_ := Aside0.mk ((by rw [hg]; exact Nat.ne_of_gt (blk_lt (g := gb451) (o := .cells #[.int .i64 a0_0, .int .i64 a0_1, .int .i64 a0_2, .slice A0_3 l0_3.length c0_3, .slice A0_4 l0_4.length c0_4, .slice A0_5 l0_5.length c0_5, .slice (some ad504) l0_6.length c0_6, .slice A0_7 l0_7.length c0_7] 67 (0, 0)) (mBK BK451.out)) : gb505 ≠ gb451)); clear HO_4 BK451 HB; have HO_4 := n0_; have BK451 := n1_; have HB := n2_; have BK505 := n3_; have GW505 := n4_; have GE505 := n5_; have NB451_505 := n6_; have NB505_451 := n7_; clear n0_ n1_ n2_ n3_ n4_ n5_ n6_ n7_ hb hbox hg; have hnb85 := NB505_451.out; have hnc85 := NB451_505.out; have hcz86_0 : w84.cell? ⟨gb505, 0, none⟩ = some (.int .i64 0) := (blk_cell BK505.out 0).trans rfl; have hcz86_1 : w84.cell? ⟨gb505, 1, none⟩ = some (.int .i64 0) := (blk_cell BK505.out 1).trans rfl; have hcz86_2 : w84.cell? ⟨gb505, 2, none⟩ = some (.int .i64 0) := (blk_cell BK505.out 2).trans rfl; have hcz86_3 : w84.cell? ⟨gb505, 3, none⟩ = some (.int .i64 0) := (blk_cell BK505.out 3).trans rfl; have hcz86_4 : w84.cell? ⟨gb505, 4, none⟩ = some (.int .i64 0) := (blk_cell BK505.out 4).trans rfl; have hcz86_5 : w84.cell? ⟨gb505, 5, none⟩ = some (.int .i64 0) := (blk_cell BK505.out 5).trans rfl; have hcz86_6 : w84.cell? ⟨gb505, 6, none⟩ = some (.int .i64 0) := (blk_cell BK505.out 6).trans rfl; have hcz86_7 : w84.cell? ⟨gb505, 7, none⟩ = some (.int .i64 0) := (blk_cell BK505.out 7).trans rfl; have hcz86_8 : w84.cell? ⟨gb505, 8, none⟩ = some (.int .i64 0) := (blk_cell BK505.out 8).trans rfl; have hcz86_9 : w84.cell? ⟨gb505, 9, none⟩ = some (.int .i64 0) := (blk_cell BK505.out 9).trans rfl; have hcz86_10 : w84.cell? ⟨gb505, 10, none⟩ = some (.int .i64 0) := (blk_cell BK505.out 10).trans rfl; have hcz86_11 : w84.cell? ⟨gb505, 11, none⟩ = some (.slice none 0 0) := (blk_cell BK505.out 11).trans rfl; have hfz86_0 := blk_frozen BK505.out 0; have hfz86_1 := blk_frozen BK505.out 1; have hfz86_2 := blk_frozen BK505.out 2; have hfz86_3 := blk_frozen BK505.out 3; have hfz86_4 := blk_frozen BK505.out 4; have hfz86_5 := blk_frozen BK505.out 5; have hfz86_6 := blk_frozen BK505.out 6; have hfz86_7 := blk_frozen BK505.out 7; have hfz86_8 := blk_frozen BK505.out 8; have hfz86_9 := blk_frozen BK505.out 9; have hfz86_10 := blk_frozen BK505.out 10; have hfz86_11 := blk_frozen BK505.out 11) | ((with_reducible refine gate_dst (N := 141) rfl ?_); refine Kd.R_lit (Kd.int .i64) _ 3 ?hg (N := 141) ?hd (xs := ([(rd_T100 l0_6 x111_4).f0, (rd_T100 l0_6 x111_4).f1, (rd_T100 l0_6 x111_4).f2, (rd_T100 l0_6 x111_4).f3, (rd_T100 l0_6 x111_4).f4, (rd_T100 l0_6 x111_4).f5, (rd_T100 l0_6 x111_4).f6, (rd_T100 l0_6 x111_4).f7, (rd_T100 l0_6 x111_4).f8, (rd_T100 l0_6 x111_4).f9, (rd_T100 l0_6 x111_4).f10, (((rd_T100 l0_6 x111_4).f11).length : Int)] : List Int)) (inner := [.int .i64 ((rd_T100 l0_6 x111_4).f0), .int .i64 ((rd_T100 l0_6 x111_4).f1), .int .i64 ((rd_T100 l0_6 x111_4).f2), .int .i64 ((rd_T100 l0_6 x111_4).f3), .int .i64 ((rd_T100 l0_6 x111_4).f4), .int .i64 ((rd_T100 l0_6 x111_4).f5), .int .i64 ((rd_T100 l0_6 x111_4).f6), .int .i64 ((rd_T100 l0_6 x111_4).f7), .int .i64 ((rd_T100 l0_6 x111_4).f8), .int .i64 ((rd_T100 l0_6 x111_4).f9), .int .i64 ((rd_T100 l0_6 x111_4).f10), .int .i64 (((rd_T100 l0_6 x111_4).f11).length : Int)]) (ok := fun _ => True) (okp := fun _ => True) ?hr ?hp (fun _ hk => hk) trivial (Below.refl _ _) (Nat.le_refl _) (by simp) ?_; (case hd => rfl); (case hg => rfl); (case hr => first | (go_simp; done) | (go_simp; rfl)); (case hp => exact (Reps.one (show Kd.M (Kd.int .i64) _ _ _ ((rd_T100 l0_6 x111_4).f0) [.int .i64 ((rd_T100 l0_6 x111_4).f0)] from rfl) (Reps.one (show Kd.M (Kd.int .i64) _ _ _ ((rd_T100 l0_6 x111_4).f1) [.int .i64 ((rd_T100 l0_6 x111_4).f1)] from rfl) (Reps.one (show Kd.M (Kd.int .i64) _ _ _ ((rd_T100 l0_6 x111_4).f2) [.int .i64 ((rd_T100 l0_6 x111_4).f2)] from rfl) (Reps.one (show Kd.M (Kd.int .i64) _ _ _ ((rd_T100 l0_6 x111_4).f3) [.int .i64 ((rd_T100 l0_6 x111_4).f3)] from rfl) (Reps.one (show Kd.M (Kd.int .i64) _ _ _ ((rd_T100 l0_6 x111_4).f4) [.int .i64 ((rd_T100 l0_6 x111_4).f4)] from rfl) (Reps.one (show Kd.M (Kd.int .i64) _ _ _ ((rd_T100 l0_6 x111_4).f5) [.int .i64 ((rd_T100 l0_6 x111_4).f5)] from rfl) (Reps.one (show Kd.M (Kd.int .i64) _ _ _ ((rd_T100 l0_6 x111_4).f6) [.int .i64 ((rd_T100 l0_6 x111_4).f6)] from rfl) (Reps.one (show Kd.M (Kd.int .i64) _ _ _ ((rd_T100 l0_6 x111_4).f7) [.int .i64 ((rd_T100 l0_6 x111_4).f7)] from rfl) (Reps.one (show Kd.M (Kd.int .i64) _ _ _ ((rd_T100 l0_6 x111_4).f8) [.int .i64 ((rd_T100 l0_6 x111_4).f8)] from rfl) (Reps.one (show Kd.M (Kd.int .i64) _ _ _ ((rd_T100 l0_6 x111_4).f9) [.int .i64 ((rd_T100 l0_6 x111_4).f9)] from rfl) (Reps.one (show Kd.M (Kd.int .i64) _ _ _ ((rd_T100 l0_6 x111_4).f10) [.int .i64 ((rd_T100 l0_6 x111_4).f10)] from rfl) (Reps.one (show Kd.M (Kd.int .i64) _ _ _ (((rd_T100 l0_6 x111_4).f11).length : Int) [.int .i64 (((rd_T100 l0_6 x111_4).f11).length : Int)] from rfl) (Reps.none _ _)))))))))))))); intro v507 w87 ho88 hb hg_ hnew_; clear hg_ hnew_; (first | rw [← Ny506.out] at ho88 | (simp only [Int.reduceToNat] at ho88; rw [← Ny506.out] at ho88)); have n0_ := Aside0.mk (Kd.R_below (by (with_reducible repeat (first | apply Kd.R_alloc | apply Kd.R_drewN | apply Kd.R_drew)); exact (Kd.R_mono (Kd.R_fa gb505 11 (Kd.R_fa gb505 10 (Kd.R_fa gb505 9 (Kd.R_fa gb505 8 (Kd.R_fa gb505 7 (Kd.R_fa gb505 6 (Kd.R_fa gb505 5 (Kd.R_fa gb505 4 (Kd.R_fa gb505 3 (Kd.R_fa gb505 2 (Kd.R_fa gb505 1 (Kd.R_fa gb505 0 (Kd.R_types HO_4.out BK505.out (by decide)) (.int .i64 ((rd_T100 l0_6 x111_4).f0))) (.int .i64 ((rd_T100 l0_6 x111_4).f1))) (.int .i64 ((rd_T100 l0_6 x111_4).f2))) (.int .i64 ((rd_T100 l0_6 x111_4).f3))) (.int .i64 ((rd_T100 l0_6 x111_4).f4))) (.int .i64 ((rd_T100 l0_6 x111_4).f5))) (.int .i64 ((rd_T100 l0_6 x111_4).f6))) (.int .i64 ((rd_T100 l0_6 x111_4).f7))) (.int .i64 ((rd_T100 l0_6 x111_4).f8))) (.int .i64 ((rd_T100 l0_6 x111_4).f9))) (.int .i64 ((rd_T100 l0_6 x111_4).f10))) (.slice A504_11 ((rd_T100 l0_6 x111_4).f11).length c504_11)) (fun _ h_ => h_.1))) hb); have n1_ := Aside0.mk (Kd.R_lower (Kd.R_newM (M := fun k_ => (w.heap.size ≤ k_)) ho88 (below_size (mBs HB.out)) (fun k_ h_ => h_)) (below_size (mBs HB.out))); have n2_ := Aside0.mk (blk_below (g := gb451) (o := .cells #[.int .i64 a0_0, .int .i64 a0_1, .int .i64 a0_2, .slice A0_3 l0_3.length c0_3, .slice A0_4 l0_4.length c0_4, .slice A0_5 l0_5.length c0_5, .slice (some ad504) l0_6.length c0_6, .slice A0_7 l0_7.length c0_7] 67 (0, 0)) (by (with_reducible repeat first | apply blk_drewN | apply blk_drew | apply blk_alloc); refine blk_far ?_ NB451_505.out _; (with_reducible repeat first | apply blk_drewN | apply blk_drew | apply blk_alloc); refine blk_far ?_ NB451_505.out _; (with_reducible repeat first | apply blk_drewN | apply blk_drew | apply blk_alloc); refine blk_far ?_ NB451_505.out _; (with_reducible repeat first | apply blk_drewN | apply blk_drew | apply blk_alloc); refine blk_far ?_ NB451_505.out _; (with_reducible repeat first | apply blk_drewN | apply blk_drew | apply blk_alloc); refine blk_far ?_ NB451_505.out _; (with_reducible repeat first | apply blk_drewN | apply blk_drew | apply blk_alloc); refine blk_far ?_ NB451_505.out _; (with_reducible repeat first | apply blk_drewN | apply blk_drew | apply blk_alloc); refine blk_far ?_ NB451_505.out _; (with_reducible repeat first | apply blk_drewN | apply blk_drew | apply blk_alloc); refine blk_far ?_ NB451_505.out _; (with_reducible repeat first | apply blk_drewN | apply blk_drew | apply blk_alloc); refine blk_far ?_ NB451_505.out _; (with_reducible repeat first | apply blk_drewN | apply blk_drew | apply blk_alloc); refine blk_far ?_ NB451_505.out _; (with_reducible repeat first | apply blk_drewN | apply blk_drew | apply blk_alloc); refine blk_far ?_ NB451_505.out _; (with_reducible repeat first | apply blk_drewN | apply blk_drew | apply blk_alloc); refine blk_far ?_ NB451_505.out _; (with_reducible repeat first | apply blk_drewN | apply blk_drew | apply blk_alloc); exact BK451.out) hb); have n3_ := Aside0.mk (blk_below (g := gb505) (o := .cells #[.int .i64 ((rd_T100 l0_6 x111_4).f0), .int .i64 ((rd_T100 l0_6 x111_4).f1), .int .i64 ((rd_T100 l0_6 x111_4).f2), .int .i64 ((rd_T100 l0_6 x111_4).f3), .int .i64 ((rd_T100 l0_6 x111_4).f4), .int .i64 ((rd_T100 l0_6 x111_4).f5), .int .i64 ((rd_T100 l0_6 x111_4).f6), .int .i64 ((rd_T100 l0_6 x111_4).f7), .int .i64 ((rd_T100 l0_6 x111_4).f8), .int .i64 ((rd_T100 l0_6 x111_4).f9), .int .i64 ((rd_T100 l0_6 x111_4).f10), .slice A504_11 ((rd_T100 l0_6 x111_4).f11).length c504_11] 100 (0, 0)) (by (with_reducible repeat first | apply blk_drewN | apply blk_drew | apply blk_alloc); refine blk_put (cs := #[.int .i64 ((rd_T100 l0_6 x111_4).f0), .int .i64 ((rd_T100 l0_6 x111_4).f1), .int .i64 ((rd_T100 l0_6 x111_4).f2), .int .i64 ((rd_T100 l0_6 x111_4).f3), .int .i64 ((rd_T100 l0_6 x111_4).f4), .int .i64 ((rd_T100 l0_6 x111_4).f5), .int .i64 ((rd_T100 l0_6 x111_4).f6), .int .i64 ((rd_T100 l0_6 x111_4).f7), .int .i64 ((rd_T100 l0_6 x111_4).f8), .int .i64 ((rd_T100 l0_6 x111_4).f9), .int .i64 ((rd_T100 l0_6 x111_4).f10), .slice none 0 0]) ?_ 11 _ rfl; (with_reducible repeat first | apply blk_drewN | apply blk_drew | apply blk_alloc); refine blk_put (cs := #[.int .i64 ((rd_T100 l0_6 x111_4).f0), .int .i64 ((rd_T100 l0_6 x111_4).f1), .int .i64 ((rd_T100 l0_6 x111_4).f2), .int .i64 ((rd_T100 l0_6 x111_4).f3), .int .i64 ((rd_T100 l0_6 x111_4).f4), .int .i64 ((rd_T100 l0_6 x111_4).f5), .int .i64 ((rd_T100 l0_6 x111_4).f6), .int .i64 ((rd_T100 l0_6 x111_4).f7), .int .i64 ((rd_T100 l0_6 x111_4).f8), .int .i64 ((rd_T100 l0_6 x111_4).f9), .int .i64 0, .slice none 0 0]) ?_ 10 _ rfl; (with_reducible repeat first | apply blk_drewN | apply blk_drew | apply blk_alloc); refine blk_put (cs := #[.int .i64 ((rd_T100 l0_6 x111_4).f0), .int .i64 ((rd_T100 l0_6 x111_4).f1), .int .i64 ((rd_T100 l0_6 x111_4).f2), .int .i64 ((rd_T100 l0_6 x111_4).f3), .int .i64 ((rd_T100 l0_6 x111_4).f4), .int .i64 ((rd_T100 l0_6 x111_4).f5), .int .i64 ((rd_T100 l0_6 x111_4).f6), .int .i64 ((rd_T100 l0_6 x111_4).f7), .int .i64 ((rd_T100 l0_6 x111_4).f8), .int .i64 0, .int .i64 0, .slice none 0 0]) ?_ 9 _ rfl; (with_reducible repeat first | apply blk_drewN | apply blk_drew | apply blk_alloc); refine blk_put (cs := #[.int .i64 ((rd_T100 l0_6 x111_4).f0), .int .i64 ((rd_T100 l0_6 x111_4).f1), .int .i64 ((rd_T100 l0_6 x111_4).f2), .int .i64 ((rd_T100 l0_6 x111_4).f3), .int .i64 ((rd_T100 l0_6 x111_4).f4), .int .i64 ((rd_T100 l0_6 x111_4).f5), .int .i64 ((rd_T100 l0_6 x111_4).f6), .int .i64 ((rd_T100 l0_6 x111_4).f7), .int .i64 0, .int .i64 0, .int .i64 0, .slice none 0 0]) ?_ 8 _ rfl; (with_reducible repeat first | apply blk_drewN | apply blk_drew | apply blk_alloc); refine blk_put (cs := #[.int .i64 ((rd_T100 l0_6 x111_4).f0), .int .i64 ((rd_T100 l0_6 x111_4).f1), .int .i64 ((rd_T100 l0_6 x111_4).f2), .int .i64 ((rd_T100 l0_6 x111_4).f3), .int .i64 ((rd_T100 l0_6 x111_4).f4), .int .i64 ((rd_T100 l0_6 x111_4).f5), .int .i64 ((rd_T100 l0_6 x111_4).f6), .int .i64 0, .int .i64 0, .int .i64 0, .int .i64 0, .slice none 0 0]) ?_ 7 _ rfl; (with_reducible repeat first | apply blk_drewN | apply blk_drew | apply blk_alloc); refine blk_put (cs := #[.int .i64 ((rd_T100 l0_6 x111_4).f0), .int .i64 ((rd_T100 l0_6 x111_4).f1), .int .i64 ((rd_T100 l0_6 x111_4).f2), .int .i64 ((rd_T100 l0_6 x111_4).f3), .int .i64 ((rd_T100 l0_6 x111_4).f4), .int .i64 ((rd_T100 l0_6 x111_4).f5), .int .i64 0, .int .i64 0, .int .i64 0, .int .i64 0, .int .i64 0, .slice none 0 0]) ?_ 6 _ rfl; (with_reducible repeat first | apply blk_drewN | apply blk_drew | apply blk_alloc); refine blk_put (cs := #[.int .i64 ((rd_T100 l0_6 x111_4).f0), .int .i64 ((rd_T100 l0_6 x111_4).f1), .int .i64 ((rd_T100 l0_6 x111_4).f2), .int .i64 ((rd_T100 l0_6 x111_4).f3), .int .i64 ((rd_T100 l0_6 x111_4).f4), .int .i64 0, .int .i64 0, .int .i64 0, .int .i64 0, .int .i64 0, .int .i64 0, .slice none 0 0]) ?_ 5 _ rfl; (with_reducible repeat first | apply blk_drewN | apply blk_drew | apply blk_alloc); refine blk_put (cs := #[.int .i64 ((rd_T100 l0_6 x111_4).f0), .int .i64 ((rd_T100 l0_6 x111_4).f1), .int .i64 ((rd_T100 l0_6 x111_4).f2), .int .i64 ((rd_T100 l0_6 x111_4).f3), .int .i64 0, .int .i64 0, .int .i64 0, .int .i64 0, .int .i64 0, .int .i64 0, .int .i64 0, .slice none 0 0]) ?_ 4 _ rfl; (with_reducible repeat first | apply blk_drewN | apply blk_drew | apply blk_alloc); refine blk_put (cs := #[.int .i64 ((rd_T100 l0_6 x111_4).f0), .int .i64 ((rd_T100 l0_6 x111_4).f1), .int .i64 ((rd_T100 l0_6 x111_4).f2), .int .i64 0, .int .i64 0, .int .i64 0, .int .i64 0, .int .i64 0, .int .i64 0, .int .i64 0, .int .i64 0, .slice none 0 0]) ?_ 3 _ rfl; (with_reducible repeat first | apply blk_drewN | apply blk_drew | apply blk_alloc); refine blk_put (cs := #[.int .i64 ((rd_T100 l0_6 x111_4).f0), .int .i64 ((rd_T100 l0_6 x111_4).f1), .int .i64 0, .int .i64 0, .int .i64 0, .int .i64 0, .int .i64 0, .int .i64 0, .int .i64 0, .int .i64 0, .int .i64 0, .slice none 0 0]) ?_ 2 _ rfl; (with_reducible repeat first | apply blk_drewN | apply blk_drew | apply blk_alloc); refine blk_put (cs := #[.int .i64 ((rd_T100 l0_6 x111_4).f0), .int .i64 0, .int .i64 0, .int .i64 0, .int .i64 0, .int .i64 0, .int .i64 0, .int .i64 0, .int .i64 0, .int .i64 0, .int .i64 0, .slice none 0 0]) ?_ 1 _ rfl; (with_reducible repeat first | apply blk_drewN | apply blk_drew | apply blk_alloc); refine blk_put (cs := #[.int .i64 0, .int .i64 0, .int .i64 0, .int .i64 0, .int .i64 0, .int .i64 0, .int .i64 0, .int .i64 0, .int .i64 0, .int .i64 0, .int .i64 0, .slice none 0 0]) ?_ 0 _ rfl; (with_reducible repeat first | apply blk_drewN | apply blk_drew | apply blk_alloc); exact BK505.out) hb); have n4_ := Aside0.mk (below_step (mBs HB.out) hb); clear HO_4 BK451 BK505 HB; have HO_4 := n0_; have HO508 := n1_; have BK451 := n2_; have BK505 := n3_; have HB := n4_; clear n0_ n1_ n2_ n3_ n4_ hb ho88; obtain ⟨Ao89, co89, eo89⟩ := Kd.R_slice HO_4.out; subst eo89; obtain ⟨Ao90, co90, eo90⟩ := Kd.R_slice HO508.out; subst eo90) | ((with_reducible refine gate_callee (f := 49) rfl ?_); refine goesL_ (some 142) rfl rfl Try.func49 (by kernel_rfl) rfl #[.slice Ao89 x4_4.length co89, .slice Ao90 y506.length co90] rfl mt ?_; (with_reducible refine (snap_put.calls k4 (fun k_ => some k_ = (.slice Ao89 x4_4.length co89 : Value).ownBlock) (.slice Ao89 x4_4.length co89) x4_4 _ _ y506 t509 w _ ?side1 ?side2 ?side3 ?side4 A83.out).mono ?_); (case side1 => repeat (first | (with_reducible first | exact HB.out | apply below_alloc | apply pw_below_drewN | apply below_drew1 | refine below_set ?_ GE451.out | refine below_set ?_ GE505.out) | exact HB.out)); (case side2 => exact Kd.R_tight rfl HO_4.out); (case side3 => exact Kd.C_kept_own ((Kd.R_apart' HO508.out (Kd.R_typed HO_4.out) (by decide))) (fun k_ hk_ hs_ => (hk_.2) hs_)); (case side4 => exact (Kd.R_reads' HO508.out).2.1); rintro e w91 ⟨v510, rfl, ho0, hb, hkp⟩; refine ⟨_, rfl, ?_⟩; have n0_ := Aside0.mk (blk_kept (mBK BK451.out) hkp (fun hs_ => (fun e_ => (Kd.R_ne HO_4.out BK451.out (by decide)) e_) hs_)); have n1_ := Aside0.mk (blk_kept (mBK BK505.out) hkp (fun hs_ => (fun e_ => (Kd.R_ne HO_4.out BK505.out (by decide)) e_) hs_)); have n2_ := Aside0.mk (Kd.R_mono (ok' := fun k_ => (w.heap.size ≤ k_)) (Kd.R_keptB ((Kd.R_apart' HO508.out (Kd.R_typed HO_4.out) (by decide))) hkp (fun k_ hk_ hs_ => (hk_.2) hs_)) (fun k_ hk_ => hk_.1.1.1)); have n3_ := Aside0.mk (Kd.R_mono (ok' := fun k_ => (w.heap.size ≤ k_)) ho0 (fun k_ hk_ => Or.elim hk_ (fun hs_ => (HO_4.out.1 k_ (hs_).symm)) (fun hn_ => (Nat.le_trans (below_size (mBs HB.out)) hn_)))); have n4_ := Aside0.mk (hb); clear BK451 BK505 HO508 HB HO_4; have BK451 := n0_; have BK505 := n1_; have HO508 := n2_; have HO511 := n3_; have HB := n4_; clear n0_ n1_ n2_ n3_ n4_ hb hkp ho0; have hcz92_0 : w91.cell? ⟨gb505, 0, none⟩ = some (.int .i64 ((rd_T100 l0_6 x111_4).f0)) := (blk_cell BK505.out 0).trans rfl; have hcz92_1 : w91.cell? ⟨gb505, 1, none⟩ = some (.int .i64 ((rd_T100 l0_6 x111_4).f1)) := (blk_cell BK505.out 1).trans rfl; have hcz92_2 : w91.cell? ⟨gb505, 2, none⟩ = some (.int .i64 ((rd_T100 l0_6 x111_4).f2)) := (blk_cell BK505.out 2).trans rfl; have hcz92_3 : w91.cell? ⟨gb505, 3, none⟩ = some (.int .i64 ((rd_T100 l0_6 x111_4).f3)) := (blk_cell BK505.out 3).trans rfl; have hcz92_4 : w91.cell? ⟨gb505, 4, none⟩ = some (.int .i64 ((rd_T100 l0_6 x111_4).f4)) := (blk_cell BK505.out 4).trans rfl; have hcz92_5 : w91.cell? ⟨gb505, 5, none⟩ = some (.int .i64 ((rd_T100 l0_6 x111_4).f5)) := (blk_cell BK505.out 5).trans rfl; have hcz92_6 : w91.cell? ⟨gb505, 6, none⟩ = some (.int .i64 ((rd_T100 l0_6 x111_4).f6)) := (blk_cell BK505.out 6).trans rfl; have hcz92_7 : w91.cell? ⟨gb505, 7, none⟩ = some (.int .i64 ((rd_T100 l0_6 x111_4).f7)) := (blk_cell BK505.out 7).trans rfl; have hcz92_8 : w91.cell? ⟨gb505, 8, none⟩ = some (.int .i64 ((rd_T100 l0_6 x111_4).f8)) := (blk_cell BK505.out 8).trans rfl; have hcz92_9 : w91.cell? ⟨gb505, 9, none⟩ = some (.int .i64 ((rd_T100 l0_6 x111_4).f9)) := (blk_cell BK505.out 9).trans rfl; have hcz92_10 : w91.cell? ⟨gb505, 10, none⟩ = some (.int .i64 ((rd_T100 l0_6 x111_4).f10)) := (blk_cell BK505.out 10).trans rfl; have hcz92_11 : w91.cell? ⟨gb505, 11, none⟩ = some (.slice A504_11 ((rd_T100 l0_6 x111_4).f11).length c504_11) := (blk_cell BK505.out 11).trans rfl; have hfz92_0 := blk_frozen BK505.out 0; have hfz92_1 := blk_frozen BK505.out 1; have hfz92_2 := blk_frozen BK505.out 2; have hfz92_3 := blk_frozen BK505.out 3; have hfz92_4 := blk_frozen BK505.out 4; have hfz92_5 := blk_frozen BK505.out 5; have hfz92_6 := blk_frozen BK505.out 6; have hfz92_7 := blk_frozen BK505.out 7; have hfz92_8 := blk_frozen BK505.out 8; have hfz92_9 := blk_frozen BK505.out 9; have hfz92_10 := blk_frozen BK505.out 10; have hfz92_11 := blk_frozen BK505.out 11))
                go_loopg [4, 146] k4 (fun kq v4 v146 w' => ∃ (x4_5 : List Int) (x146_5 : Int), v146 = .int .i64 x146_5 ∧ Aside0 (snap_Encode.l4 kq x4_5 l0_6 (l0_6.length : Int) x111_4 ((rd_T100 l0_6 x111_4).f11) (((rd_T100 l0_6 x111_4).f11).length : Int) x146_5 a0_0 a0_1 a0_2 l0_3 l0_4 l0_5 l0_6 l0_7 = some (r1, r2)) ∧ Aside0 (kq ≤ k4) ∧ Aside0 (Kd.R (Kd.int .u8) 5 w' w.heap.size (fun k_ => (w.heap.size ≤ k_)) v4 x4_5) ∧ Aside0 (w'.heap[gb451]? = some (.cells #[.int .i64 a0_0, .int .i64 a0_1, .int .i64 a0_2, (.slice A0_3 l0_3.length c0_3), (.slice A0_4 l0_4.length c0_4), (.slice A0_5 l0_5.length c0_5), (.slice (some ad504) l0_6.length c0_6), (.slice A0_7 l0_7.length c0_7)] 67 (0, 0))) ∧ Aside0 (w'.heap[gb505]? = some (.cells #[.int .i64 ((rd_T100 l0_6 x111_4).f0), .int .i64 ((rd_T100 l0_6 x111_4).f1), .int .i64 ((rd_T100 l0_6 x111_4).f2), .int .i64 ((rd_T100 l0_6 x111_4).f3), .int .i64 ((rd_T100 l0_6 x111_4).f4), .int .i64 ((rd_T100 l0_6 x111_4).f5), .int .i64 ((rd_T100 l0_6 x111_4).f6), .int .i64 ((rd_T100 l0_6 x111_4).f7), .int .i64 ((rd_T100 l0_6 x111_4).f8), .int .i64 ((rd_T100 l0_6 x111_4).f9), .int .i64 ((rd_T100 l0_6 x111_4).f10), (.slice A504_11 ((rd_T100 l0_6 x111_4).f11).length c504_11)] 100 (0, 0))) ∧ Aside0 (Below w.heap.size w w'))
                case atStart => exact ⟨(t509), (0), ez, H', ⟨Nat.le_refl _⟩, ⟨mR HO511.out⟩, ⟨mBK BK451.out⟩, ⟨mBK BK505.out⟩, ⟨mBs HB.out⟩⟩
                case round =>
                 clear H'
                 clear c80b0 c81b0 c82b0 hcz86_0 hcz86_1 hcz86_10 hcz86_11 hcz86_2 hcz86_3 hcz86_4 hcz86_5 hcz86_6 hcz86_7 hcz86_8 hcz86_9 hcz92_0 hcz92_1 hcz92_10 hcz92_11 hcz92_2 hcz92_3 hcz92_4 hcz92_5 hcz92_6 hcz92_7 hcz92_8 hcz92_9 hfz86_0 hfz86_1 hfz86_10 hfz86_11 hfz86_2 hfz86_3 hfz86_4 hfz86_5 hfz86_6 hfz86_7 hfz86_8 hfz86_9 hfz92_0 hfz92_1 hfz92_10 hfz92_11 hfz92_2 hfz92_3 hfz92_4 hfz92_5 hfz92_6 hfz92_7 hfz92_8 hfz92_9 hx504_0 hx504_1 hx504_10 hx504_11 hx504_2 hx504_3 hx504_4 hx504_5 hx504_6 hx504_7 hx504_8 hx504_9 p504 q504
                 obtain ⟨x4_5, x146_5, rfl, HA, HK5, HO_4, BK451, BK505, HB⟩ := hrel
                 cases gk with
                 | zero => exact absurd HA.out (by simp [snap_Encode.l4])
                 | succ k5 =>
                  have H := HA.out
                  clear HA
                  simp only [snap_Encode.l4] at H
                  by_cases c93 : x146_5 < (((rd_T100 l0_6 x111_4).f11).length : Int)
                  ·rw [if_pos c93] at H
                   have c93b0 : decide (x146_5 < (((rd_T100 l0_6 x111_4).f11).length : Int)) = true := decide_eq_true c93
                   clear c93
                   by_cases c94 : 0 ≤ x146_5
                   ·rw [if_pos c94] at H
                    have c94b0 : decide (0 ≤ x146_5) = true := decide_eq_true c94
                    clear c94
                    by_cases c95 : x146_5 < (((rd_T100 l0_6 x111_4).f11).length : Int)
                    ·rw [if_pos c95] at H
                     have c95b0 : decide (x146_5 < (((rd_T100 l0_6 x111_4).f11).length : Int)) = true := decide_eq_true c95
                     clear c95
                     obtain ⟨y514, hy514⟩ : ∃ y_ : List Int, y_ = (([(rd_T102 ((rd_T100 l0_6 x111_4).f11) x146_5).f0, (rd_T102 ((rd_T100 l0_6 x111_4).f11) x146_5).f1] : List Int)) := ⟨_, rfl⟩
                     replace H : ((snap_put.f k5 x4_5 y514).bind fun t517 => (snap_Encode.l4 k5 t517 l0_6 (l0_6.length : Int) x111_4 ((rd_T100 l0_6 x111_4).f11) (((rd_T100 l0_6 x111_4).f11).length : Int) (wrap64 (x146_5 + 1)) a0_0 a0_1 a0_2 l0_3 l0_4 l0_5 l0_6 l0_7)) = some (r1, r2) := mH hy514 H
                     have Ny514 := Aside0.mk hy514
                     clear hy514
                     replace H := Option.bind_eq_some_iff.mp H
                     obtain ⟨t517, A960, H⟩ := H
                     replace H : (snap_Encode.l4 k5 t517 l0_6 (l0_6.length : Int) x111_4 ((rd_T100 l0_6 x111_4).f11) (((rd_T100 l0_6 x111_4).f11).length : Int) (wrap64 (x146_5 + 1)) a0_0 a0_1 a0_2 l0_3 l0_4 l0_5 l0_6 l0_7) = some (r1, r2) := H
                     have A96 := Aside0.mk A960
                     clear A960
                     have H' := Aside0.mk H
                     clear H
                     have p512 : 0 ≤ (x146_5 : Int) := oda
                     have q512 : x146_5 < (((rd_T100 l0_6 x111_4).f11).length : Int) := oda
                     obtain ⟨ad512, e512, hx512_0, hx512_1⟩ := at_T102 HR504_11.out x146_5 p512 q512
                     cases e512
                     replace hx512_0 := (HB.out.cell (World.block_lt_of_cell? w _ hx512_0)).trans hx512_0
                     replace hx512_1 := (HB.out.cell (World.block_lt_of_cell? w _ hx512_1)).trans hx512_1
                     replace p512 := eq_true p512
                     replace q512 := eq_true q512
                     go_wp2_with (first | ((with_reducible refine gate_dst (N := 14) rfl ?_); refine box_event ?hg (N := 14) ?hd (cs := #[.int .i64 0, .int .i64 0]) (t := 102) ?hr ?_; (case hd => rfl); (case hg => rfl); (case hr => first | (go_simp; done) | (go_simp; rfl)); intro gb513 hg w97 hbox hb; have n0_ := Aside0.mk (Kd.R_below (mR HO_4.out) hb); have n1_ := Aside0.mk (blk_below (g := gb451) (o := .cells #[.int .i64 a0_0, .int .i64 a0_1, .int .i64 a0_2, .slice A0_3 l0_3.length c0_3, .slice A0_4 l0_4.length c0_4, .slice A0_5 l0_5.length c0_5, .slice (some ad504) l0_6.length c0_6, .slice A0_7 l0_7.length c0_7] 67 (0, 0)) (mBK BK451.out) hb); have n2_ := Aside0.mk (blk_below (g := gb505) (o := .cells #[.int .i64 ((rd_T100 l0_6 x111_4).f0), .int .i64 ((rd_T100 l0_6 x111_4).f1), .int .i64 ((rd_T100 l0_6 x111_4).f2), .int .i64 ((rd_T100 l0_6 x111_4).f3), .int .i64 ((rd_T100 l0_6 x111_4).f4), .int .i64 ((rd_T100 l0_6 x111_4).f5), .int .i64 ((rd_T100 l0_6 x111_4).f6), .int .i64 ((rd_T100 l0_6 x111_4).f7), .int .i64 ((rd_T100 l0_6 x111_4).f8), .int .i64 ((rd_T100 l0_6 x111_4).f9), .int .i64 ((rd_T100 l0_6 x111_4).f10), .slice (some ad512) ((rd_T100 l0_6 x111_4).f11).length c504_11] 100 (0, 0)) (mBK BK505.out) hb); have n3_ := Aside0.mk (below_step (mBs HB.out) hb); have n4_ := Aside0.mk (hbox); have n5_ := Aside0.mk ((by rw [hg]; exact (below_size (mBs HB.out)) : w.heap.size ≤ gb513)); have n6_ := Aside0.mk ((by rw [hg]; exact (below_size (mBs HB.out)) : w.heap.size ≤ gb513)); have n7_ := Aside0.mk ((by rw [hg]; exact Nat.ne_of_lt (blk_lt (g := gb451) (o := .cells #[.int .i64 a0_0, .int .i64 a0_1, .int .i64 a0_2, .slice A0_3 l0_3.length c0_3, .slice A0_4 l0_4.length c0_4, .slice A0_5 l0_5.length c0_5, .slice (some ad504) l0_6.length c0_6, .slice A0_7 l0_7.length c0_7] 67 (0, 0)) (mBK BK451.out)) : gb451 ≠ gb513)); have n8_ := Aside0.mk ((by rw [hg]; exact Nat.ne_of_gt (blk_lt (g := gb451) (o := .cells #[.int .i64 a0_0, .int .i64 a0_1, .int .i64 a0_2, .slice A0_3 l0_3.length c0_3, .slice A0_4 l0_4.length c0_4, .slice A0_5 l0_5.length c0_5, .slice (some ad504) l0_6.length c0_6, .slice A0_7 l0_7.length c0_7] 67 (0, 0)) (mBK BK451.out)) : gb513 ≠ gb451)); have n9_ := Aside0.mk ((by rw [hg]; exact Nat.ne_of_lt (blk_lt (g := gb505) (o := .cells #[.int .i64 ((rd_T100 l0_6 x111_4).f0), .int .i64 ((rd_T100 l0_6 x111_4).f1), .int .i64 ((rd_T100 l0_6 x111_4).f2), .int .i64 ((rd_T100 l0_6 x111_4).f3), .int .i64 ((rd_T100 l0_6 x111_4).f4), .int .i64 ((rd_T100 l0_6 x111_4).f5), .int .i64 ((rd_T100 l0_6 x111_4).f6), .int .i64 ((rd_T100 l0_6 x111_4).f7), .int .i64 ((rd_T100 l0_6 x111_4).f8), .int .i64 ((rd_T100 l0_6 x111_4).f9), .int .i64 ((rd_T100 l0_6 x111_4).f10), .slice (some ad512) ((rd_T100 l0_6 x111_4).f11).length c504_11] 100 (0, 0)) (mBK BK505.out)) : gb505 ≠ gb513)); have n10_ := Aside0.mk ((by rw [hg]; exact Nat.ne_of_gt (blk_lt (g := gb505) (o := .cells #[.int .i64 ((rd_T100 l0_6 x111_4).f0), .int .i64 ((rd_T100 l0_6 x111_4).f1), .int .i64 ((rd_T100 l0_6 x111_4).f2), .int .i64 ((rd_T100 l0_6 x111_4).f3), .int .i64 ((rd_T100 l0_6 x111_4).f4), .int .i64 ((rd_T100 l0_6 x111_4).f5), .int .i64 ((rd_T100 l0_6 x111_4).f6), .int .i64 ((rd_T100 l0_6 x111_4).f7), .int .i64 ((rd_T100 l0_6 x111_4).f8), .int .i64 ((rd_T100 l0_6 x111_4).f9), .int .i64 ((rd_T100 l0_6 x111_4).f10), .slice (some ad512) ((rd_T100 l0_6 x111_4).f11).length c504_11] 100 (0, 0)) (mBK BK505.out)) : gb513 ≠ gb505)); clear HO_4 BK451 BK505 HB; have HO_4 := n0_; have BK451 := n1_; have BK505 := n2_; have HB := n3_; have BK513 := n4_; have GW513 := n5_; have GE513 := n6_; have NB451_513 := n7_; have NB513_451 := n8_; have NB505_513 := n9_; have NB513_505 := n10_; clear n0_ n1_ n2_ n3_ n4_ n5_ n6_ n7_ n8_ n9_ n10_ hb hbox hg; have hnb98 := NB513_451.out; have hnc98 := NB451_513.out; have hnb99 := NB513_505.out; have hnc99 := NB505_513.out; have hcz100_0 : w97.cell? ⟨gb513, 0, none⟩ = some (.int .i64 0) := (blk_cell BK513.out 0).trans rfl; have hcz100_1 : w97.cell? ⟨gb513, 1, none⟩ = some (.int .i64 0) := (blk_cell BK513.out 1).trans rfl; have hfz100_0 := blk_frozen BK513.out 0; have hfz100_1 := blk_frozen BK513.out 1) | ((with_reducible refine gate_dst (N := 155) rfl ?_); refine Kd.R_lit (Kd.int .i64) _ 3 ?hg (N := 155) ?hd (xs := ([(rd_T102 ((rd_T100 l0_6 x111_4).f11) x146_5).f0, (rd_T102 ((rd_T100 l0_6 x111_4).f11) x146_5).f1] : List Int)) (inner := [.int .i64 ((rd_T102 ((rd_T100 l0_6 x111_4).f11) x146_5).f0), .int .i64 ((rd_T102 ((rd_T100 l0_6 x111_4).f11) x146_5).f1)]) (ok := fun _ => True) (okp := fun _ => True) ?hr ?hp (fun _ hk => hk) trivial (Below.refl _ _) (Nat.le_refl _) (by simp) ?_; (case hd => rfl); (case hg => rfl); (case hr => first | (go_simp; done) | (go_simp; rfl)); (case hp => exact (Reps.one (show Kd.M (Kd.int .i64) _ _ _ ((rd_T102 ((rd_T100 l0_6 x111_4).f11) x146_5).f0) [.int .i64 ((rd_T102 ((rd_T100 l0_6 x111_4).f11) x146_5).f0)] from rfl) (Reps.one (show Kd.M (Kd.int .i64) _ _ _ ((rd_T102 ((rd_T100 l0_6 x111_4).f11) x146_5).f1) [.int .i64 ((rd_T102 ((rd_T100 l0_6 x111_4).f11) x146_5).f1)] from rfl) (Reps.none _ _)))); intro v515 w101 ho102 hb hg_ hnew_; clear hg_ hnew_; (first | rw [← Ny514.out] at ho102 | (simp only [Int.reduceToNat] at ho102; rw [← Ny514.out] at ho102)); have n0_ := Aside0.mk (Kd.R_below (by (with_reducible repeat (first | apply Kd.R_alloc | apply Kd.R_drewN | apply Kd.R_drew)); exact (Kd.R_mono (Kd.R_fa gb513 1 (Kd.R_fa gb513 0 (Kd.R_types HO_4.out BK513.out (by decide)) (.int .i64 ((rd_T102 ((rd_T100 l0_6 x111_4).f11) x146_5).f0))) (.int .i64 ((rd_T102 ((rd_T100 l0_6 x111_4).f11) x146_5).f1))) (fun _ h_ => h_.1))) hb); have n1_ := Aside0.mk (Kd.R_lower (Kd.R_newM (M := fun k_ => (w.heap.size ≤ k_)) ho102 (below_size (mBs HB.out)) (fun k_ h_ => h_)) (below_size (mBs HB.out))); have n2_ := Aside0.mk (blk_below (g := gb451) (o := .cells #[.int .i64 a0_0, .int .i64 a0_1, .int .i64 a0_2, .slice A0_3 l0_3.length c0_3, .slice A0_4 l0_4.length c0_4, .slice A0_5 l0_5.length c0_5, .slice (some ad504) l0_6.length c0_6, .slice A0_7 l0_7.length c0_7] 67 (0, 0)) (by (with_reducible repeat first | apply blk_drewN | apply blk_drew | apply blk_alloc); refine blk_far ?_ NB451_513.out _; (with_reducible repeat first | apply blk_drewN | apply blk_drew | apply blk_alloc); refine blk_far ?_ NB451_513.out _; (with_reducible repeat first | apply blk_drewN | apply blk_drew | apply blk_alloc); exact BK451.out) hb); have n3_ := Aside0.mk (blk_below (g := gb505) (o := .cells #[.int .i64 ((rd_T100 l0_6 x111_4).f0), .int .i64 ((rd_T100 l0_6 x111_4).f1), .int .i64 ((rd_T100 l0_6 x111_4).f2), .int .i64 ((rd_T100 l0_6 x111_4).f3), .int .i64 ((rd_T100 l0_6 x111_4).f4), .int .i64 ((rd_T100 l0_6 x111_4).f5), .int .i64 ((rd_T100 l0_6 x111_4).f6), .int .i64 ((rd_T100 l0_6 x111_4).f7), .int .i64 ((rd_T100 l0_6 x111_4).f8), .int .i64 ((rd_T100 l0_6 x111_4).f9), .int .i64 ((rd_T100 l0_6 x111_4).f10), .slice (some ad512) ((rd_T100 l0_6 x111_4).f11).length c504_11] 100 (0, 0)) (by (with_reducible repeat first | apply blk_drewN | apply blk_drew | apply blk_alloc); refine blk_far ?_ NB505_513.out _; (with_reducible repeat first | apply blk_drewN | apply blk_drew | apply blk_alloc); refine blk_far ?_ NB505_513.out _; (with_reducible repeat first | apply blk_drewN | apply blk_drew | apply blk_alloc); exact BK505.out) hb); have n4_ := Aside0.mk (blk_below (g := gb513) (o := .cells #[.int .i64 ((rd_T102 ((rd_T100 l0_6 x111_4).f11) x146_5).f0), .int .i64 ((rd_T102 ((rd_T100 l0_6 x111_4).f11) x146_5).f1)] 102 (0, 0)) (by (with_reducible repeat first | apply blk_drewN | apply blk_drew | apply blk_alloc); refine blk_put (cs := #[.int .i64 ((rd_T102 ((rd_T100 l0_6 x111_4).f11) x146_5).f0), .int .i64 0]) ?_ 1 _ rfl; (with_reducible repeat first | apply blk_drewN | apply blk_drew | apply blk_alloc); refine blk_put (cs := #[.int .i64 0, .int .i64 0]) ?_ 0 _ rfl; (with_reducible repeat first | apply blk_drewN | apply blk_drew | apply blk_alloc); exact BK513.out) hb); have n5_ := Aside0.mk (below_step (mBs HB.out) hb); clear HO_4 BK451 BK505 BK513 HB; have HO_4 := n0_; have HO516 := n1_; have BK451 := n2_; have BK505 := n3_; have BK513 := n4_; have HB := n5_; clear n0_ n1_ n2_ n3_ n4_ n5_ hb ho102; obtain ⟨Ao103, co103, eo103⟩ := Kd.R_slice HO_4.out; subst eo103; obtain ⟨Ao104, co104, eo104⟩ := Kd.R_slice HO516.out; subst eo104) | ((with_reducible refine gate_callee (f := 49) rfl ?_); refine goesL_ (some 156) rfl rfl Try.func49 (by kernel_rfl) rfl #[.slice Ao103 x4_5.length co103, .slice Ao104 y514.length co104] rfl mt ?_; (with_reducible refine (snap_put.calls k5 (fun k_ => some k_ = (.slice Ao103 x4_5.length co103 : Value).ownBlock) (.slice Ao103 x4_5.length co103) x4_5 _ _ y514 t517 w _ ?side1 ?side2 ?side3 ?side4 A96.out).mono ?_); (case side1 => repeat (first | (with_reducible first | exact HB.out | apply below_alloc | apply pw_below_drewN | apply below_drew1 | refine below_set ?_ GE451.out | refine below_set ?_ GE505.out | refine below_set ?_ GE513.out) | exact HB.out)); (case side2 => exact Kd.R_tight rfl HO_4.out); (case side3 => exact Kd.C_kept_own ((Kd.R_apart' HO516.out (Kd.R_typed HO_4.out) (by decide))) (fun k_ hk_ hs_ => (hk_.2) hs_)); (case side4 => exact (Kd.R_reads' HO516.out).2.1); rintro e w105 ⟨v518, rfl, ho0, hb, hkp⟩; refine ⟨_, rfl, ?_⟩; have n0_ := Aside0.mk (blk_kept (mBK BK451.out) hkp (fun hs_ => (fun e_ => (Kd.R_ne HO_4.out BK451.out (by decide)) e_) hs_)); have n1_ := Aside0.mk (blk_kept (mBK BK505.out) hkp (fun hs_ => (fun e_ => (Kd.R_ne HO_4.out BK505.out (by decide)) e_) hs_)); have n2_ := Aside0.mk (blk_kept (mBK BK513.out) hkp (fun hs_ => (fun e_ => (Kd.R_ne HO_4.out BK513.out (by decide)) e_) hs_)); have n3_ := Aside0.mk (Kd.R_mono (ok' := fun k_ => (w.heap.size ≤ k_)) (Kd.R_keptB ((Kd.R_apart' HO516.out (Kd.R_typed HO_4.out) (by decide))) hkp (fun k_ hk_ hs_ => (hk_.2) hs_)) (fun k_ hk_ => hk_.1.1.1)); have n4_ := Aside0.mk (Kd.R_mono (ok' := fun k_ => (w.heap.size ≤ k_)) ho0 (fun k_ hk_ => Or.elim hk_ (fun hs_ => (HO_4.out.1 k_ (hs_).symm)) (fun hn_ => (Nat.le_trans (below_size (mBs HB.out)) hn_)))); have n5_ := Aside0.mk (hb); clear BK451 BK505 BK513 HO516 HB HO_4; have BK451 := n0_; have BK505 := n1_; have BK513 := n2_; have HO516 := n3_; have HO519 := n4_; have HB := n5_; clear n0_ n1_ n2_ n3_ n4_ n5_ hb hkp ho0))
                     go_roundg k5
                     case measure => have := HK1.out; have := HK2.out; have := HK3.out; have := HK4.out; have := HK5.out; omega
                     case rel => exact ⟨(t517), (wrap64 (x146_5 + 1)), ez, H', ⟨by have := HK1.out; have := HK2.out; have := HK3.out; have := HK4.out; have := HK5.out; omega⟩, ⟨mR HO519.out⟩, ⟨mBK BK451.out⟩, ⟨mBK BK505.out⟩, ⟨mBs HB.out⟩⟩
                    ·rw [if_neg c95] at H
                     exact absurd H (by simp)
                   ·rw [if_neg c94] at H
                    exact absurd H (by simp)
                  ·rw [if_neg c93] at H
                   have c93b0 : decide (x146_5 < (((rd_T100 l0_6 x111_4).f11).length : Int)) = false := decide_eq_false c93
                   clear c93
                   have H' := Aside0.mk H
                   clear H
                   go_wp2
                   go_roundg k5
                   case measure => have := HK1.out; have := HK2.out; have := HK3.out; have := HK4.out; have := HK5.out; omega
                   case rel => exact ⟨(x4_5), (wrap64 (x111_4 + 1)), ez, H', ⟨by have := HK1.out; have := HK2.out; have := HK3.out; have := HK4.out; have := HK5.out; omega⟩, ⟨mR HO_4.out⟩, ⟨mBK BK451.out⟩, ⟨mBs HB.out⟩⟩
               ·rw [if_neg c82] at H
                exact absurd H (by simp)
              ·rw [if_neg c81] at H
               exact absurd H (by simp)
             ·rw [if_neg c80] at H
              have c80b0 : decide (x111_4 < (l0_6.length : Int)) = false := decide_eq_false c80
              clear c80
              obtain ⟨y520, hy520⟩ : ∃ y_ : List Int, y_ = (([(l0_7.length : Int)] : List Int)) := ⟨_, rfl⟩
              replace H : ((snap_put.f k4 x4_4 y520).bind fun t523 => (snap_Encode.l5 k4 t523 l0_7 (l0_7.length : Int) 0)) = some (r1, r2) := mH hy520 H
              have Ny520 := Aside0.mk hy520
              clear hy520
              replace H := Option.bind_eq_some_iff.mp H
              obtain ⟨t523, A1060, H⟩ := H
              replace H : (snap_Encode.l5 k4 t523 l0_7 (l0_7.length : Int) 0) = some (r1, r2) := H
              have A106 := Aside0.mk A1060
              clear A1060
              have H' := Aside0.mk H
              clear H
              have hcz107_0 : wr.cell? ⟨gb451, 0, none⟩ = some (.int .i64 a0_0) := (blk_cell BK451.out 0).trans rfl
              have hcz107_1 : wr.cell? ⟨gb451, 1, none⟩ = some (.int .i64 a0_1) := (blk_cell BK451.out 1).trans rfl
              have hcz107_2 : wr.cell? ⟨gb451, 2, none⟩ = some (.int .i64 a0_2) := (blk_cell BK451.out 2).trans rfl
              have hcz107_3 : wr.cell? ⟨gb451, 3, none⟩ = some (.slice A0_3 l0_3.length c0_3) := (blk_cell BK451.out 3).trans rfl
              have hcz107_4 : wr.cell? ⟨gb451, 4, none⟩ = some (.slice A0_4 l0_4.length c0_4) := (blk_cell BK451.out 4).trans rfl
              have hcz107_5 : wr.cell? ⟨gb451, 5, none⟩ = some (.slice A0_5 l0_5.length c0_5) := (blk_cell BK451.out 5).trans rfl
              have hcz107_6 : wr.cell? ⟨gb451, 6, none⟩ = some (.slice A0_6 l0_6.length c0_6) := (blk_cell BK451.out 6).trans rfl
              have hcz107_7 : wr.cell? ⟨gb451, 7, none⟩ = some (.slice A0_7 l0_7.length c0_7) := (blk_cell BK451.out 7).trans rfl
              have hfz107_0 := blk_frozen BK451.out 0
              have hfz107_1 := blk_frozen BK451.out 1
              have hfz107_2 := blk_frozen BK451.out 2
              have hfz107_3 := blk_frozen BK451.out 3
              have hfz107_4 := blk_frozen BK451.out 4
              have hfz107_5 := blk_frozen BK451.out 5
              have hfz107_6 := blk_frozen BK451.out 6
              have hfz107_7 := blk_frozen BK451.out 7
              go_wp2_with (first | ((with_reducible refine gate_dst (N := 163) rfl ?_); refine Kd.R_lit (Kd.int .i64) _ 3 ?hg (N := 163) ?hd (xs := ([(l0_7.length : Int)] : List Int)) (inner := [.int .i64 (l0_7.length : Int)]) (ok := fun _ => True) (okp := fun _ => True) ?hr ?hp (fun _ hk => hk) trivial (Below.refl _ _) (Nat.le_refl _) (by simp) ?_; (case hd => rfl); (case hg => rfl); (case hr => first | (go_simp; done) | (go_simp; rfl)); (case hp => exact (Reps.one (show Kd.M (Kd.int .i64) _ _ _ (l0_7.length : Int) [.int .i64 (l0_7.length : Int)] from rfl) (Reps.none _ _))); intro v521 w108 ho109 hb hg_ hnew_; clear hg_ hnew_; (first | rw [← Ny520.out] at ho109 | (simp only [Int.reduceToNat] at ho109; rw [← Ny520.out] at ho109)); have n0_ := Aside0.mk (Kd.R_below (mR HO_4.out) hb); have n1_ := Aside0.mk (Kd.R_lower (Kd.R_newM (M := fun k_ => (w.heap.size ≤ k_)) ho109 (below_size (mBs HB.out)) (fun k_ h_ => h_)) (below_size (mBs HB.out))); have n2_ := Aside0.mk (blk_below (g := gb451) (o := .cells #[.int .i64 a0_0, .int .i64 a0_1, .int .i64 a0_2, .slice A0_3 l0_3.length c0_3, .slice A0_4 l0_4.length c0_4, .slice A0_5 l0_5.length c0_5, .slice A0_6 l0_6.length c0_6, .slice A0_7 l0_7.length c0_7] 67 (0, 0)) (mBK BK451.out) hb); have n3_ := Aside0.mk (below_step (mBs HB.out) hb); clear HO_4 BK451 HB; have HO_4 := n0_; have HO522 := n1_; have BK451 := n2_; have HB := n3_; clear n0_ n1_ n2_ n3_ hb ho109; obtain ⟨Ao110, co110, eo110⟩ := Kd.R_slice HO_4.out; subst eo110; obtain ⟨Ao111, co111, eo111⟩ := Kd.R_slice HO522.out; subst eo111) | ((with_reducible refine gate_callee (f := 49) rfl ?_); refine goesL_ (some 164) rfl rfl Try.func49 (by kernel_rfl) rfl #[.slice Ao110 x4_4.length co110, .slice Ao111 y520.length co111] rfl mt ?_; (with_reducible refine (snap_put.calls k4 (fun k_ => some k_ = (.slice Ao110 x4_4.length co110 : Value).ownBlock) (.slice Ao110 x4_4.length co110) x4_4 _ _ y520 t523 w _ ?side1 ?side2 ?side3 ?side4 A106.out).mono ?_); (case side1 => repeat (first | (with_reducible first | exact HB.out | apply below_alloc | apply pw_below_drewN | apply below_drew1 | refine below_set ?_ GE451.out) | exact HB.out)); (case side2 => exact Kd.R_tight rfl HO_4.out); (case side3 => exact Kd.C_kept_own ((Kd.R_apart' HO522.out (Kd.R_typed HO_4.out) (by decide))) (fun k_ hk_ hs_ => (hk_.2) hs_)); (case side4 => exact (Kd.R_reads' HO522.out).2.1); rintro e w112 ⟨v524, rfl, ho0, hb, hkp⟩; refine ⟨_, rfl, ?_⟩; have n0_ := Aside0.mk (blk_kept (mBK BK451.out) hkp (fun hs_ => (fun e_ => (Kd.R_ne HO_4.out BK451.out (by decide)) e_) hs_)); have n1_ := Aside0.mk (Kd.R_mono (ok' := fun k_ => (w.heap.size ≤ k_)) (Kd.R_keptB ((Kd.R_apart' HO522.out (Kd.R_typed HO_4.out) (by decide))) hkp (fun k_ hk_ hs_ => (hk_.2) hs_)) (fun k_ hk_ => hk_.1.1.1)); have n2_ := Aside0.mk (Kd.R_mono (ok' := fun k_ => (w.heap.size ≤ k_)) ho0 (fun k_ hk_ => Or.elim hk_ (fun hs_ => (HO_4.out.1 k_ (hs_).symm)) (fun hn_ => (Nat.le_trans (below_size (mBs HB.out)) hn_)))); have n3_ := Aside0.mk (hb); clear BK451 HO522 HB HO_4; have BK451 := n0_; have HO522 := n1_; have HO525 := n2_; have HB := n3_; clear n0_ n1_ n2_ n3_ hb hkp ho0; have hcz113_0 : w112.cell? ⟨gb451, 0, none⟩ = some (.int .i64 a0_0) := (blk_cell BK451.out 0).trans rfl; have hcz113_1 : w112.cell? ⟨gb451, 1, none⟩ = some (.int .i64 a0_1) := (blk_cell BK451.out 1).trans rfl; have hcz113_2 : w112.cell? ⟨gb451, 2, none⟩ = some (.int .i64 a0_2) := (blk_cell BK451.out 2).trans rfl; have hcz113_3 : w112.cell? ⟨gb451, 3, none⟩ = some (.slice A0_3 l0_3.length c0_3) := (blk_cell BK451.out 3).trans rfl; have hcz113_4 : w112.cell? ⟨gb451, 4, none⟩ = some (.slice A0_4 l0_4.length c0_4) := (blk_cell BK451.out 4).trans rfl; have hcz113_5 : w112.cell? ⟨gb451, 5, none⟩ = some (.slice A0_5 l0_5.length c0_5) := (blk_cell BK451.out 5).trans rfl; have hcz113_6 : w112.cell? ⟨gb451, 6, none⟩ = some (.slice A0_6 l0_6.length c0_6) := (blk_cell BK451.out 6).trans rfl; have hcz113_7 : w112.cell? ⟨gb451, 7, none⟩ = some (.slice A0_7 l0_7.length c0_7) := (blk_cell BK451.out 7).trans rfl; have hfz113_0 := blk_frozen BK451.out 0; have hfz113_1 := blk_frozen BK451.out 1; have hfz113_2 := blk_frozen BK451.out 2; have hfz113_3 := blk_frozen BK451.out 3; have hfz113_4 := blk_frozen BK451.out 4; have hfz113_5 := blk_frozen BK451.out 5; have hfz113_6 := blk_frozen BK451.out 6; have hfz113_7 := blk_frozen BK451.out 7))
              go_loopg [4, 168] k4 (fun kq v4 v168 w' => ∃ (x4_5 : List Int) (x168_5 : Int), v168 = .int .i64 x168_5 ∧ Aside0 (snap_Encode.l5 kq x4_5 l0_7 (l0_7.length : Int) x168_5 = some (r1, r2)) ∧ Aside0 (kq ≤ k4) ∧ Aside0 (Kd.R (Kd.int .u8) 5 w' w.heap.size (fun k_ => (w.heap.size ≤ k_)) v4 x4_5) ∧ Aside0 (w'.heap[gb451]? = some (.cells #[.int .i64 a0_0, .int .i64 a0_1, .int .i64 a0_2, (.slice A0_3 l0_3.length c0_3), (.slice A0_4 l0_4.length c0_4), (.slice A0_5 l0_5.length c0_5), (.slice A0_6 l0_6.length c0_6), (.slice A0_7 l0_7.length c0_7)] 67 (0, 0))) ∧ Aside0 (Below w.heap.size w w'))
              case atStart => exact ⟨(t523), (0), ez, H', ⟨Nat.le_refl _⟩, ⟨mR HO525.out⟩, ⟨mBK BK451.out⟩, ⟨mBs HB.out⟩⟩
              case round =>
               clear H'
               clear c80b0 hcz107_0 hcz107_1 hcz107_2 hcz107_3 hcz107_4 hcz107_5 hcz107_6 hcz107_7 hcz113_0 hcz113_1 hcz113_2 hcz113_3 hcz113_4 hcz113_5 hcz113_6 hcz113_7 hfz107_0 hfz107_1 hfz107_2 hfz107_3 hfz107_4 hfz107_5 hfz107_6 hfz107_7 hfz113_0 hfz113_1 hfz113_2 hfz113_3 hfz113_4 hfz113_5 hfz113_6 hfz113_7
               obtain ⟨x4_5, x168_5, rfl, HA, HK5, HO_4, BK451, HB⟩ := hrel
               cases gk with
               | zero => exact absurd HA.out (by simp [snap_Encode.l5])
               | succ k5 =>
                have H := HA.out
                clear HA
                simp only [snap_Encode.l5] at H
                by_cases c114 : x168_5 < (l0_7.length : Int)
                ·rw [if_pos c114] at H
                 have c114b0 : decide (x168_5 < (l0_7.length : Int)) = true := decide_eq_true c114
                 clear c114
                 by_cases c115 : 0 ≤ x168_5
                 ·rw [if_pos c115] at H
                  have c115b0 : decide (0 ≤ x168_5) = true := decide_eq_true c115
                  clear c115
                  by_cases c116 : x168_5 < (l0_7.length : Int)
                  ·rw [if_pos c116] at H
                   have c116b0 : decide (x168_5 < (l0_7.length : Int)) = true := decide_eq_true c116
                   clear c116
                   replace H := Option.bind_eq_some_iff.mp H
                   obtain ⟨t527, A1170, H⟩ := H
                   replace H : (snap_Encode.l5 k5 t527 l0_7 (l0_7.length : Int) (wrap64 (x168_5 + 1))) = some (r1, r2) := H
                   have A117 := Aside0.mk A1170
                   clear A1170
                   have H' := Aside0.mk H
                   clear H
                   have p526 : 0 ≤ (x168_5 : Int) := oda
                   have q526 : x168_5 < (l0_7.length : Int) := oda
                   obtain ⟨ad526, e526, hx526_0⟩ := Kd.at_string HR0_7.out x168_5 p526 q526
                   cases e526
                   replace hx526_0 := (HB.out.cell (World.block_lt_of_cell? w _ hx526_0)).trans hx526_0
                   replace p526 := eq_true p526
                   replace q526 := eq_true q526
                   obtain ⟨Ao118, co118, eo118⟩ := Kd.R_slice HO_4.out
                   subst eo118
                   go_wp2_with (first | ((with_reducible refine gate_callee (f := 50) rfl ?_); refine goesL_ (some 174) rfl rfl Try.func50 (by kernel_rfl) rfl #[.slice Ao118 x4_5.length co118, .string (rdOf ByteArray.empty l0_7 x168_5)] rfl mt ?_; (with_reducible refine (snap_word.calls (fun k_ => some k_ = (.slice Ao118 x4_5.length co118 : Value).ownBlock) (.slice Ao118 x4_5.length co118) x4_5 (rdOf ByteArray.empty l0_7 x168_5) t527 w _ ?side1 ?side2 A117.out).mono ?_); (case side1 => repeat (first | (with_reducible first | exact HB.out | apply below_alloc | apply pw_below_drewN | apply below_drew1 | refine below_set ?_ GE451.out) | exact HB.out)); (case side2 => exact Kd.R_tight rfl HO_4.out); rintro e w119 ⟨v528, rfl, ho0, hb, hkp⟩; refine ⟨_, rfl, ?_⟩; have n0_ := Aside0.mk (blk_kept (mBK BK451.out) hkp (fun hs_ => (fun e_ => (Kd.R_ne HO_4.out BK451.out (by decide)) e_) hs_)); have n1_ := Aside0.mk (Kd.R_mono (ok' := fun k_ => (w.heap.size ≤ k_)) ho0 (fun k_ hk_ => Or.elim hk_ (fun hs_ => (HO_4.out.1 k_ (hs_).symm)) (fun hn_ => (Nat.le_trans (below_size (mBs HB.out)) hn_)))); have n2_ := Aside0.mk (hb); clear BK451 HB HO_4; have BK451 := n0_; have HO529 := n1_; have HB := n2_; clear n0_ n1_ n2_ hb hkp ho0))
                   go_roundg k5
                   case measure => have := HK1.out; have := HK2.out; have := HK3.out; have := HK4.out; have := HK5.out; omega
                   case rel => exact ⟨(t527), (wrap64 (x168_5 + 1)), ez, H', ⟨by have := HK1.out; have := HK2.out; have := HK3.out; have := HK4.out; have := HK5.out; omega⟩, ⟨mR HO529.out⟩, ⟨mBK BK451.out⟩, ⟨mBs HB.out⟩⟩
                  ·rw [if_neg c116] at H
                   exact absurd H (by simp)
                 ·rw [if_neg c115] at H
                  exact absurd H (by simp)
                ·rw [if_neg c114] at H
                 have c114b0 : decide (x168_5 < (l0_7.length : Int)) = false := decide_eq_false c114
                 clear c114
                 replace H := Option.bind_eq_some_iff.mp H
                 obtain ⟨t530, A1200, H⟩ := H
                 replace H : (some (t530, 0)) = some (r1, r2) := H
                 have A120 := Aside0.mk A1200
                 clear A1200
                 simp only [Option.some.injEq, Prod.mk.injEq] at H
                 obtain ⟨rfl, rfl⟩ := H
                 obtain ⟨Ao121, co121, eo121⟩ := Kd.R_slice HO_4.out
                 subst eo121
                 go_wp2_with (first | ((with_reducible refine gate_callee (f := 39) rfl ?_); refine goesL_ (some 177) rfl rfl Try.func39 (by kernel_rfl) rfl #[.slice Ao121 x4_5.length co121] rfl mt ?_; (with_reducible refine (slices_Clip_byte.calls (fun k_ => some k_ = (.slice Ao121 x4_5.length co121 : Value).ownBlock) _ _ x4_5 t530 _ ?side1 A120.out).mono ?_); (case side1 => exact Kd.R_V (Kd.R_tight rfl (Kd.R_types (HO_4.out) BK451.out (by decide)))); rintro e w122 ⟨v531, rfl, ho0, hb⟩; refine ⟨_, rfl, ?_⟩; have n0_ := Aside0.mk (Kd.R_below (mR HO_4.out) hb); have n1_ := Aside0.mk (Kd.V_lower (Kd.V_mono (ok' := fun k_ => (w.heap.size ≤ k_) ∧ k_ ≠ gb451) ho0 (fun k_ hk_ => ⟨Or.elim hk_ (fun hs_ => ((Kd.R_types (HO_4.out) BK451.out (by decide)).1 k_ hs_.symm).1) (fun hn_ => (Nat.le_trans (below_size (mBs HB.out)) hn_)), Or.elim hk_ (fun hs_ => ((Kd.R_types (HO_4.out) BK451.out (by decide)).1 k_ hs_.symm).2) (fun hn_ => (Kd.freshB (g := gb451) (o := .cells #[.int .i64 a0_0, .int .i64 a0_1, .int .i64 a0_2, .slice A0_3 l0_3.length c0_3, .slice A0_4 l0_4.length c0_4, .slice A0_5 l0_5.length c0_5, .slice A0_6 l0_6.length c0_6, .slice A0_7 l0_7.length c0_7] 67 (0, 0)) (mBK BK451.out) k_ hn_))⟩)) (below_size (mBs HB.out))); have n2_ := Aside0.mk (blk_below (g := gb451) (o := .cells #[.int .i64 a0_0, .int .i64 a0_1, .int .i64 a0_2, .slice A0_3 l0_3.length c0_3, .slice A0_4 l0_4.length c0_4, .slice A0_5 l0_5.length c0_5, .slice A0_6 l0_6.length c0_6, .slice A0_7 l0_7.length c0_7] 67 (0, 0)) (mBK BK451.out) hb); have n3_ := Aside0.mk (below_step (mBs HB.out) hb); clear HO_4 BK451 HB; have HO_4 := n0_; have HO532 := n1_; have BK451 := n2_; have HB := n3_; clear n0_ n1_ n2_ n3_ hb ho0))
                 go_ret2
                 exact ⟨_, by first | rfl | (simp [errW_none, errW_some] <;> rfl) | (simp [*, errW_none, errW_some] <;> rfl), by (with_reducible repeat (first | apply Kd.V_alloc | apply Kd.V_drewN | apply Kd.V_drew)); exact Kd.V_mono HO532.out (fun _ hk => hk.1), by repeat (first | (with_reducible first | exact HB.out | apply below_alloc | apply pw_below_drewN | apply below_drew1 | refine below_set ?_ GE451.out) | exact HB.out)⟩
 ·replace c3 := Bool.eq_false_iff.mpr c3
  subst c3
  have H1 : (some (([] : List Int), 3)) = some (r1, r2) := by rw [if_neg (show ¬ (false = true) by decide)] at H; exact H
  clear H
  have H := H1
  clear H1
  simp only [Option.some.injEq, Prod.mk.injEq] at H
  obtain ⟨rfl, rfl⟩ := H
  go_enter Try.func33, Try.ntmps33
  go_wp2_with (first | ((with_reducible refine gate_dst (N := 1) rfl ?_); refine box_event ?hg (N := 1) ?hd (cs := #[.int .i64 a0_0, .int .i64 a0_1, .int .i64 a0_2, .slice A0_3 l0_3.length c0_3, .slice A0_4 l0_4.length c0_4, .slice A0_5 l0_5.length c0_5, .slice A0_6 l0_6.length c0_6, .slice A0_7 l0_7.length c0_7]) (t := 67) ?hr ?_; (case hd => rfl); (case hg => rfl); (case hr => first | (go_simp; done) | (go_simp; rfl)); intro gb451 hg w123 hbox hb; have n0_ := Aside0.mk (below_step (mB HB.out) hb); have n1_ := Aside0.mk (hbox); have n2_ := Aside0.mk ((by rw [hg]; exact (below_size (mB HB.out)) : w.heap.size ≤ gb451)); have n3_ := Aside0.mk ((by rw [hg]; exact (below_size (mB HB.out)) : w.heap.size ≤ gb451)); clear HB; have HB := n0_; have BK451 := n1_; have GW451 := n2_; have GE451 := n3_; clear n0_ n1_ n2_ n3_ hb hbox hg; have hcz124_0 : w123.cell? ⟨gb451, 0, none⟩ = some (.int .i64 a0_0) := (blk_cell BK451.out 0).trans rfl; have hcz124_1 : w123.cell? ⟨gb451, 1, none⟩ = some (.int .i64 a0_1) := (blk_cell BK451.out 1).trans rfl; have hcz124_2 : w123.cell? ⟨gb451, 2, none⟩ = some (.int .i64 a0_2) := (blk_cell BK451.out 2).trans rfl; have hcz124_3 : w123.cell? ⟨gb451, 3, none⟩ = some (.slice A0_3 l0_3.length c0_3) := (blk_cell BK451.out 3).trans rfl; have hcz124_4 : w123.cell? ⟨gb451, 4, none⟩ = some (.slice A0_4 l0_4.length c0_4) := (blk_cell BK451.out 4).trans rfl; have hcz124_5 : w123.cell? ⟨gb451, 5, none⟩ = some (.slice A0_5 l0_5.length c0_5) := (blk_cell BK451.out 5).trans rfl; have hcz124_6 : w123.cell? ⟨gb451, 6, none⟩ = some (.slice A0_6 l0_6.length c0_6) := (blk_cell BK451.out 6).trans rfl; have hcz124_7 : w123.cell? ⟨gb451, 7, none⟩ = some (.slice A0_7 l0_7.length c0_7) := (blk_cell BK451.out 7).trans rfl; have hfz124_0 := blk_frozen BK451.out 0; have hfz124_1 := blk_frozen BK451.out 1; have hfz124_2 := blk_frozen BK451.out 2; have hfz124_3 := blk_frozen BK451.out 3; have hfz124_4 := blk_frozen BK451.out 4; have hfz124_5 := blk_frozen BK451.out 5; have hfz124_6 := blk_frozen BK451.out 6; have hfz124_7 := blk_frozen BK451.out 7) | ((with_reducible refine gate_callee (f := 48) rfl ?_); refine goesL_ (some 18) rfl rfl Try.func48 (by kernel_rfl) rfl #[.agg #[.int .i64 a0_0, .int .i64 a0_1, .int .i64 a0_2, .slice A0_3 l0_3.length c0_3, .slice A0_4 l0_4.length c0_4, .slice A0_5 l0_5.length c0_5, .slice A0_6 l0_6.length c0_6, .slice A0_7 l0_7.length c0_7]] rfl mt ?_; (with_reducible refine (snap_fits.calls k a0_0 a0_1 a0_2 _ _ l0_3 _ _ l0_4 _ _ l0_5 _ _ l0_6 _ _ l0_7 false _ ?side1 ?side2 ?side3 ?side4 ?side5 ?side6 ?side7 ?side8 ?side9 ?side10 A2.out).mono ?_); (case side1 => repeat (first | exact (Kd.C_below HR0_3.out HB.out) | (with_reducible refine Kd.C_alloc ?_ _) | (with_reducible refine Kd.C_drewN ?_ _) | (with_reducible refine Kd.C_drew ?_))); (case side2 => exact HC0_3.out); (case side3 => repeat (first | exact (Kd.C_below HR0_4.out HB.out) | (with_reducible refine Kd.C_alloc ?_ _) | (with_reducible refine Kd.C_drewN ?_ _) | (with_reducible refine Kd.C_drew ?_))); (case side4 => exact HC0_4.out); (case side5 => repeat (first | exact (Kd.C_below HR0_5.out HB.out) | (with_reducible refine Kd.C_alloc ?_ _) | (with_reducible refine Kd.C_drewN ?_ _) | (with_reducible refine Kd.C_drew ?_))); (case side6 => exact HC0_5.out); (case side7 => repeat (first | exact (Kd.C_below HR0_6.out HB.out) | (with_reducible refine Kd.C_alloc ?_ _) | (with_reducible refine Kd.C_drewN ?_ _) | (with_reducible refine Kd.C_drew ?_))); (case side8 => exact HC0_6.out); (case side9 => repeat (first | exact (Kd.C_below HR0_7.out HB.out) | (with_reducible refine Kd.C_alloc ?_ _) | (with_reducible refine Kd.C_drewN ?_ _) | (with_reducible refine Kd.C_drew ?_))); (case side10 => exact HC0_7.out); rintro e w125 ⟨rfl, hb⟩; refine ⟨_, rfl, ?_⟩; have n0_ := Aside0.mk (blk_below (g := gb451) (o := .cells #[.int .i64 a0_0, .int .i64 a0_1, .int .i64 a0_2, .slice A0_3 l0_3.length c0_3, .slice A0_4 l0_4.length c0_4, .slice A0_5 l0_5.length c0_5, .slice A0_6 l0_6.length c0_6, .slice A0_7 l0_7.length c0_7] 67 (0, 0)) (mBK BK451.out) hb); have n1_ := Aside0.mk (below_step (mBs HB.out) hb); clear BK451 HB; have BK451 := n0_; have HB := n1_; clear n0_ n1_ hb))
  go_ret2
  exact ⟨_, by first | rfl | (simp [errW_none, errW_some] <;> rfl) | (simp [*, errW_none, errW_some] <;> rfl), Kd.V_nil _ _ _ _ _, by repeat (first | (with_reducible first | exact HB.out | apply below_alloc | apply pw_below_drewN | apply below_drew1 | refine below_set ?_ GE451.out) | exact HB.out)⟩

end Go.Proofs.Ytjmkpcnekghmhaa.PAll
end
section
namespace Go.Proofs.Ytjmkpcnekghmhaa.PAll
open Go.RowKit Go.Proofs.YtjmkpcnekghmhaaW.PrintWords Go.Proofs.YtjmkpcnekghmhaaW.PrintLast Go.Proofs.YtjmkpcnekghmhaaW.PrintMore
attribute [local go_sem] max2_int min2_int max_two min_two max_three min_three max_four min_four   -- for this text's walks alone
set_option linter.unusedVariables false
set_option linter.unusedSimpArgs false

theorem C_bytes (W : World) (s : ByteArray) (hs : s.size ≤ 9223372036854775807) : Kd.C (Kd.int .u8) (Lib.bytesWorld W 5 s) (some ⟨W.heap.size, 0, none⟩) s.size (bytesOf s) := by
  refine ⟨bytesOf_length s, hs, fun _ => ⟨_, rfl, fun j p hj => ⟨[.int .u8 p], rfl, rfl, fun i u hu => ?_⟩⟩⟩
  obtain rfl : i = 0 := by
    rcases i with _ | i
    · rfl
    · simp at hu
  obtain rfl : Value.int .u8 p = u := by simpa using hu
  have hlt : j < s.size := by rw [← bytesOf_length]; exact (List.getElem?_eq_some_iff.1 hj).1
  show World.cell? _ (Addr.add ⟨W.heap.size, 0, none⟩ (j * 1 + 0)) = _
  rw [add_plain, show j * 1 + 0 = j by omega, Lib.bytesWorld_cell W 5 s j hlt]
  have h' : j < s.data.toList.length := by rw [data_length]; exact hlt
  simp [bytesOf, List.getElem?_eq_getElem h'] at hj
  simp [← hj, Array.getElem?_eq_getElem (show j < s.data.size from hlt)]
def prebendref03_Text.f (l0 : List Int) (a1 : ByteArray) : Option (List Int) := if l0.length < 1000000000000 ∧ a1.size < 1000000000000 then some (l0 ++ [((a1.size : Int) / 256) % 256, (a1.size : Int) % 256] ++ bytesOf a1) else none
set_option maxHeartbeats 8000000 in
set_option maxRecDepth 100000 in
theorem prebendref03_Text.calls (A0 : Option Addr) (c0 : Nat) (l0 : List Int) (a1 : ByteArray) (r : List Int) (w : World) (hr0 : Kd.C (Kd.int .u8) w A0 l0.length l0) (hc0 : l0.length ≤ c0) (h : prebendref03_Text.f l0 a1 = some r) :
    Calls Try.prog 20 #[.slice A0 l0.length c0, .string a1] w fun e w' => ∃ v0_ : Value, e = .returned (v0_) ∧ Kd.R (Kd.int .u8) 5 w' w.heap.size (fun _ => True) v0_ r ∧ Below w.heap.size w w' := by
  unfold prebendref03_Text.f at h
  have hc : l0.length < 1000000000000 ∧ a1.size < 1000000000000 := Decidable.byContradiction fun c => by rw [if_neg c] at h; simp at h
  rw [if_pos hc] at h
  obtain rfl := Option.some.inj h
  have HL := Aside0.mk hc
  have HR0 := Aside0.mk hr0
  have HC0 := Aside0.mk hc0
  have q1 : 0 ≤ (a1.size : Int) := by omega
  have q2 : (a1.size : Int) ≤ 1000000000000 := by omega
  have HB := Aside0.mk (Below.refl w.heap.size w)
  have hcv := fun W => print_bytes (P := Try.prog) 9 22 5 Try.underlying9 Try.underlying22 Try.underlying5 a1 W
  clear h hc hr0 hc0
  go_enter Try.func20, Try.ntmps20
  go_wp2_with (first
   | ((with_reducible refine gate_dst (N := 6) rfl ?_); refine Kd.R_lit (Kd.int .u8) _ 5 ?hg (N := 6) ?hd (xs := ([] : List Int)) (inner := []) (ok := fun _ => True) (okp := fun _ => True) ?hr ?hp (fun _ hk => hk) trivial (Below.refl _ _) (Nat.le_refl _) (by simp) ?_; (case hd => rfl); (case hg => rfl); (case hr => first | (go_simp; done) | (go_simp; rfl)); (case hp => exact (Reps.none _ _)); intro v1 w1 ho hb hg_ hnew_; clear hg_ hnew_; clear HB; have HO := Aside0.mk ho; have HB := Aside0.mk hb; clear ho hb)
   | ((with_reducible refine gate_builtin (b := .append) (xs := #[.tmp 6, .tmp 7]) rfl ?_); at_builtin; refine Kd.R_append_rows (Kd.int .u8) (w0 := w) w.heap.size rfl (.tmp 6) (.tmp 7) 22 5 (.int .u8 0) 1 rfl Try.underlying22 info5 rfl (by decide) (by omega) v1 [] l0 _ _ _ (fun _ => True) (fun _ => False) rfl rfl ?aO ?aR (fun _ _ h => h) (fun _ h => h.elim) ?aF ?aB ?aS ?aL ?_; (case aR => exact (Kd.C_below HR0.out HB.out)); (case aB => exact HB.out); (case aF => exact (fun _ _ => trivial)); (case aO => exact HO.out); (case aS => exact (below_size HB.out)); (case aL => have := HL.out; simp; omega); intro v2 w2 ho hb hg hat; clear HO HB; have HO := Aside0.mk ho; have HB := Aside0.mk hb; clear ho hb hg hat)
   | ((with_reducible refine gate_dst (N := 17) rfl ?_); refine Kd.R_lit (Kd.int .u8) _ 5 ?hg (N := 17) ?hd (xs := ([((a1.size : Int) / 256) % 256, (a1.size : Int) % 256] : List Int)) (inner := [.int .u8 (((a1.size : Int) / 256) % 256), .int .u8 ((a1.size : Int) % 256)]) (ok := fun _ => True) (okp := fun _ => True) ?hr ?hp (fun _ hk => hk) trivial (Below.refl _ _) (Nat.le_refl _) (by simp) ?_; (case hd => rfl); (case hg => rfl); (case hr => first | (go_simp; done) | (go_simp; rfl)); (case hp => exact (Reps.snoc (p := (a1.size : Int) % 256) (c := [.int .u8 ((a1.size : Int) % 256)]) (Reps.snoc (p := ((a1.size : Int) / 256) % 256) (c := [.int .u8 (((a1.size : Int) / 256) % 256)]) (Reps.none _ _) rfl rfl) rfl rfl)); intro v3 w3 ho hb hg_ hnew_; clear hg_ hnew_; have HO2 := Aside0.mk (Kd.R_reads ho); have n1_ := Aside0.mk (Kd.R_below HO.out hb); have n2_ := Aside0.mk (below_step HB.out hb); clear HO HB; have HO := n1_; have HB := n2_; clear n1_ n2_ ho hb; obtain ⟨A3, c3, e3, hc3, hC3⟩ := HO2.out; subst e3; have HC3 := Aside0.mk hC3; clear HO2 hc3 hC3)
   | ((with_reducible refine gate_builtin (b := .append) (xs := #[.tmp 8, .tmp 17]) rfl ?_); at_builtin; refine Kd.R_append_rows (Kd.int .u8) (w0 := w) w.heap.size rfl (.tmp 8) (.tmp 17) 22 5 (.int .u8 0) 1 rfl Try.underlying22 info5 rfl (by decide) (by omega) v2 l0 [((a1.size : Int) / 256) % 256, (a1.size : Int) % 256] _ _ _ (fun _ => True) (fun _ => False) rfl rfl ?aO ?aR (fun _ _ h => h) (fun _ h => h.elim) ?aF ?aB ?aS ?aL ?_; (case aR => exact HC3.out); (case aB => exact HB.out); (case aF => exact (fun _ _ => trivial)); (case aO => exact HO.out); (case aS => exact (below_size HB.out)); (case aL => have := HL.out; simp; omega); intro v4 w4 ho hb hg hat; clear HO HB; have HO := Aside0.mk ho; have HB := Aside0.mk hb; clear ho hb hg hat)
   | ((with_reducible refine gate_builtin (b := .append) (xs := #[.tmp 19, .tmp 21]) rfl ?_); at_builtin; refine Kd.R_append_rows (Kd.int .u8) (w0 := w) w.heap.size rfl (.tmp 19) (.tmp 21) 22 5 (.int .u8 0) 1 rfl Try.underlying22 info5 rfl (by decide) (by omega) v4 (l0 ++ [((a1.size : Int) / 256) % 256, (a1.size : Int) % 256]) (bytesOf a1) _ _ _ (fun _ => True) (fun _ => False) rfl rfl ?aO ?aR (fun _ _ h => h) (fun _ h => h.elim) ?aF ?aB ?aS ?aL ?_; (case aR => exact (C_bytes w4 a1 (by have := HL.out; omega))); (case aB => exact below_step HB.out (bytes_below (Below.refl w4.heap.size w4) (Nat.le_refl _) 5 a1)); (case aF => exact (fun _ _ => trivial)); (case aO => exact Kd.R_below HO.out (bytes_below (Below.refl w4.heap.size w4) (Nat.le_refl _) 5 a1)); (case aS => exact (below_size (below_step HB.out (bytes_below (Below.refl w4.heap.size w4) (Nat.le_refl _) 5 a1)))); (case aL => have := HL.out; simp; omega); intro v5 w5 ho hb hg hat; clear HO HB; have HO := Aside0.mk ho; have HB := Aside0.mk hb; clear ho hb hg hat))
  go_ret
  exact ⟨_, rfl, HO.out, HB.out⟩
end Go.Proofs.Ytjmkpcnekghmhaa.PAll
end
section
namespace Go.Proofs.Ytjmkpcnekghmhaa.PAll
open Go.RowKit Go.Proofs.YtjmkpcnekghmhaaW.PrintWords Go.Proofs.YtjmkpcnekghmhaaW.PrintLast Go.Proofs.YtjmkpcnekghmhaaW.PrintMore
attribute [local go_sem] max2_int min2_int max_two min_two max_three min_three max_four min_four   -- for this text's walks alone
set_option linter.unusedVariables false
set_option linter.unusedSimpArgs false

mutual
def prebendref13_nums.l0 : Nat → List Int → List Int → Int → Option (List Int)
  | 0, _, _, _ => none
  | k + 1, x0, x1, x5 => if x5 < (x1.length : Int) then (prebendref13_nums.l1 k x0 x1 x5 7) else (some x0)
def prebendref13_nums.l1 : Nat → List Int → List Int → Int → Int → Option (List Int)
  | 0, _, _, _, _ => none
  | k + 1, x0, x1, x5, x6 => if x6 ≥ 0 then (if 0 ≤ x5 then (if x5 < (x1.length : Int) then (if 0 ≤ (IntKind.u64.wrap (wrap64 (8 * x6))) then (if x0.length < 140737488355328 then (prebendref13_nums.l1 k (x0 ++ [(shr .u64 (IntKind.u64.wrap (rd x1 x5)) (IntKind.u64.wrap (wrap64 (8 * x6)))) % 256]) x1 x5 (wrap64 (x6 - 1))) else (none)) else (none)) else (none)) else (none)) else (prebendref13_nums.l0 k x0 x1 (wrap64 (x5 + 1)))
end
def prebendref13_nums.f (k : Nat) (l0 : List Int) (l1 : List Int) : Option (List Int) := prebendref13_nums.l0 k l0 l1 0
theorem prebendref13_nums.mono_l : ∀ k, (∀ y0 y1 y2, LeO (prebendref13_nums.l0 k y0 y1 y2) (prebendref13_nums.l0 (k + 1) y0 y1 y2)) ∧ (∀ y0 y1 y2 y3, LeO (prebendref13_nums.l1 k y0 y1 y2 y3) (prebendref13_nums.l1 (k + 1) y0 y1 y2 y3))
  | 0 => ⟨fun _ _ _ r h => by simp [prebendref13_nums.l0] at h, fun _ _ _ _ r h => by simp [prebendref13_nums.l1] at h⟩
  | k + 1 => by
    obtain ⟨ih0, ih1⟩ := prebendref13_nums.mono_l k
    refine ⟨?_, ?_⟩
    · intro y0 y1 y2
      unfold prebendref13_nums.l0
      repeat' first
      | (with_reducible exact ih0 _ _ _)
      | (with_reducible exact ih1 _ _ _ _)
      | (with_reducible exact LeO.refl _)
      | (with_reducible exact LeO.none _)
      | (with_reducible refine LeO.ite ?_ ?_)
      | (with_reducible refine LeO.bind ?_ (fun _ => ?_))
      | exact ih0 _ _ _
      | exact ih1 _ _ _ _
      | exact LeO.none _
      | refine LeO.ite ?_ ?_
      | refine LeO.bind ?_ (fun _ => ?_)
    · intro y0 y1 y2 y3
      unfold prebendref13_nums.l1
      repeat' first
      | (with_reducible exact ih0 _ _ _)
      | (with_reducible exact ih1 _ _ _ _)
      | (with_reducible exact LeO.refl _)
      | (with_reducible exact LeO.none _)
      | (with_reducible refine LeO.ite ?_ ?_)
      | (with_reducible refine LeO.bind ?_ (fun _ => ?_))
      | exact ih0 _ _ _
      | exact ih1 _ _ _ _
      | exact LeO.none _
      | refine LeO.ite ?_ ?_
      | refine LeO.bind ?_ (fun _ => ?_)
theorem prebendref13_nums.mono : ∀ a0 a1 k, LeO (prebendref13_nums.f k a0 a1) (prebendref13_nums.f (k + 1) a0 a1) := by
  intro a0 a1 k
  obtain ⟨ih0, ih1⟩ := prebendref13_nums.mono_l k
  unfold prebendref13_nums.f
  repeat' first
      | (with_reducible exact ih0 _ _ _)
      | (with_reducible exact ih1 _ _ _ _)
      | (with_reducible exact LeO.refl _)
      | (with_reducible exact LeO.none _)
      | (with_reducible refine LeO.ite ?_ ?_)
      | (with_reducible refine LeO.bind ?_ (fun _ => ?_))
      | exact ih0 _ _ _
      | exact ih1 _ _ _ _
      | exact LeO.none _
      | refine LeO.ite ?_ ?_
      | refine LeO.bind ?_ (fun _ => ?_)
set_option maxHeartbeats 8000000 in
set_option maxRecDepth 100000 in
theorem prebendref13_nums.calls (k : Nat) (P0_ : Nat → Prop) (u9000_ : Value) (l0 : List Int) (A1 : Option Addr) (c1 : Nat) (l1 : List Int) (r : List Int) (w0 w : World) (hB : Below w0.heap.size w0 w) (ho0 : Kd.R (Kd.int .u8) 5 w w0.heap.size P0_ u9000_ l0) (hr1 : ∀ W_, Kept w W_ (fun k_ => P0_ k_) → Kd.C (Kd.int .i64) W_ A1 l1.length l1) (hc1 : l1.length ≤ c1) (h : prebendref13_nums.f k l0 l1 = some r) :
    Calls Try.prog 51 #[u9000_, .slice A1 l1.length c1] w fun e w' => ∃ v0_ : Value, e = .returned (v0_) ∧ Kd.R (Kd.int .u8) 5 w' w0.heap.size (fun k_ => (P0_ k_ ∨ w.heap.size ≤ k_)) v0_ r ∧ Below w0.heap.size w0 w' ∧ Kept w w' (fun k_ => P0_ k_) := by
  have HO0 := Aside0.mk (show Kd.R (Kd.int .u8) 5 w w0.heap.size (fun k_ => (P0_ k_ ∨ w.heap.size ≤ k_)) u9000_ l0 from Kd.R_mono ho0 (fun k_ hk => (.inl hk)))
  have HR1 := Aside0.mk hr1
  have HC1 := Aside0.mk hc1
  clear hr1 hc1
  have HK := Aside0.mk (Kept.refl w (fun k_ => P0_ k_))
  have HW0 := Aside0.mk hB.size
  have HB := Aside0.mk hB
  clear hB
  have H : (prebendref13_nums.l0 k l0 l1 0) = some r := h
  clear h
  have H' := Aside0.mk H
  clear H
  go_enter Try.func51, Try.ntmps51
  go_wp2
  go_loopg [0, 5] k (fun kq v0 v5 w' => ∃ (x0_1 : List Int) (x5_1 : Int), v5 = .int .i64 x5_1 ∧ Aside0 (prebendref13_nums.l0 kq x0_1 l1 x5_1 = some r) ∧ Aside0 (kq ≤ k) ∧ Aside0 (Kd.R (Kd.int .u8) 5 w' w0.heap.size (fun k_ => (P0_ k_ ∨ w.heap.size ≤ k_)) v0 x0_1) ∧ Aside0 (Kept w w' (fun k_ => P0_ k_)) ∧ Aside0 (Below w0.heap.size w0 w'))
  case atStart => exact ⟨(l0), (0), (by first | rfl | (simp; done) | (simp [*]; done)), H', ⟨Nat.le_refl _⟩, ⟨by (with_reducible repeat (first | apply Kd.R_alloc | apply Kd.R_drewN | apply Kd.R_drew)); exact HO0.out⟩, ⟨by repeat (first | (with_reducible first | exact HK.out | apply Kept.alloc | apply Kept.drewN | apply Kept.drew) | exact HK.out)⟩, ⟨by repeat (first | (with_reducible first | exact HB.out | apply below_alloc | apply pw_below_drewN | apply below_drew1) | exact HB.out)⟩⟩
  case round =>
    clear H'
    try clear c1
    try clear p2
    obtain ⟨x0_1, x5_1, rfl, HA, HK1, HO_0, HK, HB⟩ := hrel
    cases gk with
    | zero => exact absurd HA.out (by simp [prebendref13_nums.l0])
    | succ k1 =>
      have H := HA.out
      clear HA
      simp only [prebendref13_nums.l0] at H
      by_cases c3 : x5_1 < (l1.length : Int)
      · rw [if_pos c3] at H
        have c3b0 : decide (x5_1 < (l1.length : Int)) = true := decide_eq_true c3
        clear c3
        have H' := Aside0.mk H
        clear H
        go_wp2
        go_loopg [0, 6] k1 (fun kq v0 v6 w' => ∃ (x0_2 : List Int) (x6_2 : Int), v6 = .int .i64 x6_2 ∧ Aside0 (prebendref13_nums.l1 kq x0_2 l1 x5_1 x6_2 = some r) ∧ Aside0 (kq ≤ k1) ∧ Aside0 (Kd.R (Kd.int .u8) 5 w' w0.heap.size (fun k_ => (P0_ k_ ∨ w.heap.size ≤ k_)) v0 x0_2) ∧ Aside0 (Kept w w' (fun k_ => P0_ k_)) ∧ Aside0 (Below w0.heap.size w0 w'))
        case atStart => exact ⟨(x0_1), (7), (by first | rfl | (simp; done) | (simp [*]; done)), H', ⟨Nat.le_refl _⟩, ⟨by (with_reducible repeat (first | apply Kd.R_alloc | apply Kd.R_drewN | apply Kd.R_drew)); exact HO_0.out⟩, ⟨by repeat (first | (with_reducible first | exact HK.out | apply Kept.alloc | apply Kept.drewN | apply Kept.drew) | exact HK.out)⟩, ⟨by repeat (first | (with_reducible first | exact HB.out | apply below_alloc | apply pw_below_drewN | apply below_drew1) | exact HB.out)⟩⟩
        case round =>
          clear H'
          try clear c1
          try clear p2
          try clear c3
          try clear c3b0
          try clear p2
          obtain ⟨x0_2, x6_2, rfl, HA, HK2, HO_0, HK, HB⟩ := hrel
          cases gk with
          | zero => exact absurd HA.out (by simp [prebendref13_nums.l1])
          | succ k2 =>
            have H := HA.out
            clear HA
            simp only [prebendref13_nums.l1] at H
            by_cases c4 : x6_2 ≥ 0
            · rw [if_pos c4] at H
              have c4b0 : decide (0 ≤ x6_2) = true := decide_eq_true c4
              clear c4
              by_cases c5 : 0 ≤ x5_1
              · rw [if_pos c5] at H
                have c5b0 : decide (0 ≤ x5_1) = true := decide_eq_true c5
                clear c5
                by_cases c6 : x5_1 < (l1.length : Int)
                · rw [if_pos c6] at H
                  have c6b0 : decide (x5_1 < (l1.length : Int)) = true := decide_eq_true c6
                  clear c6
                  obtain ⟨ji7, hji7⟩ : ∃ j_ : Int, (IntKind.u64.wrap (wrap64 (8 * x6_2))) = j_ := ⟨_, rfl⟩
                  replace H : (if 0 ≤ (ji7) then (if x0_2.length < 140737488355328 then (prebendref13_nums.l1 k2 (x0_2 ++ [(shr .u64 (IntKind.u64.wrap (rd l1 x5_1)) (ji7)) % 256]) l1 x5_1 (wrap64 (x6_2 - 1))) else (none)) else (none)) = some r := by first | (rw [hji7] at H; exact H) | (simp only [hji7] at H ⊢; exact H)
                  by_cases c8 : 0 ≤ (ji7)
                  · rw [if_pos c8] at H
                    have c8b0 := eq_true c8
                    have c8b1 : decide (0 ≤ (ji7)) = true := decide_eq_true c8
                    clear c8
                    obtain ⟨ji9, hji9⟩ : ∃ j_ : Int, (shr .u64 (IntKind.u64.wrap (rd l1 x5_1)) (ji7)) = j_ := ⟨_, rfl⟩
                    replace H : (if x0_2.length < 140737488355328 then (prebendref13_nums.l1 k2 (x0_2 ++ [(ji9) % 256]) l1 x5_1 (wrap64 (x6_2 - 1))) else (none)) = some r := by first | (rw [hji9] at H; exact H) | (simp only [hji9] at H ⊢; exact H)
                    have hji9_ : ((IntKind.u64.wrap (rd l1 x5_1)) / 2 ^ min (ji7).toNat 64) = ji9 := hji9
                    have hji9z : (ji7) ≤ 64 → ((IntKind.u64.wrap (rd l1 x5_1)) / 2 ^ (ji7).toNat) = ji9 := shr_small hji9
                    by_cases c10 : x0_2.length < 140737488355328
                    · rw [if_pos c10] at H
                      have LMc10 := Aside0.mk c10
                      clear c10
                      obtain ⟨y534, hy534⟩ : ∃ y_ : List Int, y_ = (x0_2 ++ [(ji9) % 256]) := ⟨_, rfl⟩
                      replace H : (prebendref13_nums.l1 k2 y534 l1 x5_1 (wrap64 (x6_2 - 1))) = some r := by first | (rw [hy534]; with_reducible exact H) | (have H2_ := (Option.bind_some _ _).symm.trans H; rw [hy534]; with_reducible exact H2_) | (have H2_ := (Option.bind_some _ _).symm.trans H; with_reducible exact H2_) | with_reducible exact H | (rw [hy534]; exact H) | exact H
                      have Ny534 := Aside0.mk hy534
                      clear hy534
                      have H' := Aside0.mk H
                      clear H
                      have p533 : 0 ≤ (x5_1 : Int) := of_decide_eq_true (by first | (with_reducible assumption) | assumption)
                      have q533 : x5_1 < (l1.length : Int) := of_decide_eq_true (by first | (with_reducible assumption) | assumption)
                      obtain ⟨ad533, e533, hx533_0⟩ := Kd.at_int (Kd.C_kept_now HR1.out HK.out) x5_1 p533 q533
                      cases e533
                      replace p533 := eq_true p533
                      replace q533 := eq_true q533
                      go_wp2_with (first | ((with_reducible refine gate_builtin (b := .append) (xs := #[.tmp 17, .tmp 28]) rfl ?_); at_builtin; refine Kd.R_append (Kd.int .u8) (w0 := w0) w0.heap.size rfl (.tmp 17) (.tmp 28) 22 5 (.int .u8 0) 1 rfl Try.underlying22 info5 rfl (by decide) (by omega) u0 x0_2 ((ji9) % 256) [.int .u8 ((ji9) % 256)] (fun k_ => (P0_ k_ ∨ w.heap.size ≤ k_)) (fun _ => False) rfl rfl ?aP (fun _ hk => hk.elim) ?aF ?aO ?aB ?aS ?aL ?_; (case aP => exact rfl); (case aB => exact (by repeat (first | (with_reducible first | exact HB.out | apply below_alloc | apply pw_below_drewN | apply below_drew1) | exact HB.out))); (case aF => exact (fun k_ hk => (.inr (Nat.le_trans (by first | exact HK.out.1 | exact (show Kept w _ (fun k_ => P0_ k_) from by repeat (first | (with_reducible first | exact HK.out | apply Kept.alloc | apply Kept.drewN | apply Kept.drew) | exact HK.out)).1) hk)))); (case aO => exact (by (with_reducible repeat (first | apply Kd.R_alloc | apply Kd.R_drewN | apply Kd.R_drew)); exact HO_0.out)); (case aS => exact (below_size (by repeat (first | (with_reducible first | exact HB.out | apply below_alloc | apply pw_below_drewN | apply below_drew1) | exact HB.out)))); (case aL => have := LMc10.out; omega); intro v535 w11 ho hb hg hat; rw [← Ny534.out] at ho; have n0_ := Aside0.mk (hb); have n1_ := Aside0.mk (Kept.of_grown (S := (fun k_ => P0_ k_)) hg (by repeat (first | (with_reducible first | exact HK.out | apply Kept.alloc | apply Kept.drewN | apply Kept.drew) | exact HK.out)) (fun k_ e_ => (HO_0.out.1 k_ e_))); have n2_ := Aside0.mk (ho); clear HB; clear HK; clear HO_0; have HB := n0_; have HK := n1_; have HO536 := n2_; clear n0_ n1_ n2_; clear ho hb hg hat))
                      go_roundg k2
                      case measure => have := HK1.out; have := HK2.out; omega
                      case rel => exact ⟨(y534), (wrap64 (x6_2 - 1)), (by first | rfl | (simp; done) | (simp [*]; done)), H', ⟨by have := HK1.out; have := HK2.out; omega⟩, ⟨by (with_reducible repeat (first | apply Kd.R_alloc | apply Kd.R_drewN | apply Kd.R_drew)); exact HO536.out⟩, ⟨by repeat (first | (with_reducible first | exact HK.out | apply Kept.alloc | apply Kept.drewN | apply Kept.drew) | exact HK.out)⟩, ⟨by repeat (first | (with_reducible first | exact HB.out | apply below_alloc | apply pw_below_drewN | apply below_drew1) | exact HB.out)⟩⟩
                    · rw [if_neg c10] at H
                      exact absurd H (by simp)
                  · rw [if_neg c8] at H
                    exact absurd H (by simp)
                · rw [if_neg c6] at H
                  exact absurd H (by simp)
              · rw [if_neg c5] at H
                exact absurd H (by simp)
            · rw [if_neg c4] at H
              have c4b0 : decide (0 ≤ x6_2) = false := decide_eq_false c4
              clear c4
              have H' := Aside0.mk H
              clear H
              go_wp2
              go_roundg k2
              case measure => have := HK1.out; have := HK2.out; omega
              case rel => exact ⟨(x0_2), (wrap64 (x5_1 + 1)), (by first | rfl | (simp; done) | (simp [*]; done)), H', ⟨by have := HK1.out; have := HK2.out; omega⟩, ⟨by (with_reducible repeat (first | apply Kd.R_alloc | apply Kd.R_drewN | apply Kd.R_drew)); exact HO_0.out⟩, ⟨by repeat (first | (with_reducible first | exact HK.out | apply Kept.alloc | apply Kept.drewN | apply Kept.drew) | exact HK.out)⟩, ⟨by repeat (first | (with_reducible first | exact HB.out | apply below_alloc | apply pw_below_drewN | apply below_drew1) | exact HB.out)⟩⟩
      · rw [if_neg c3] at H
        have c3b0 : decide (x5_1 < (l1.length : Int)) = false := decide_eq_false c3
        clear c3
        obtain rfl := Option.some.inj H
        go_wp2
        go_ret
        exact ⟨_, by first | rfl | (simp [errW_none, errW_some] <;> rfl) | (simp [*, errW_none, errW_some] <;> rfl), by (with_reducible repeat (first | apply Kd.R_alloc | apply Kd.R_drewN | apply Kd.R_drew)); exact HO_0.out, by repeat (first | (with_reducible first | exact HB.out | apply below_alloc | apply pw_below_drewN | apply below_drew1) | exact HB.out), by repeat (first | (with_reducible first | exact HK.out | apply Kept.alloc | apply Kept.drewN | apply Kept.drew) | exact HK.out)⟩

end Go.Proofs.Ytjmkpcnekghmhaa.PAll
end
