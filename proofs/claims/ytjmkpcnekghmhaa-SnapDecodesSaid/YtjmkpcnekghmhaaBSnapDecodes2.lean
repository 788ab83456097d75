/- Words, plain functions and contracts of the functions that the law of this claim reaches; no conditions. -/
import Derived.Test.YtjmkpcnekghmhaaBSnapDecodes1
section
namespace Go.Proofs.Ytjmkpcnekghmhaa.PAll
open Go.RowKit Go.Proofs.YtjmkpcnekghmhaaW.PrintWords Go.Proofs.YtjmkpcnekghmhaaW.PrintLast Go.Proofs.YtjmkpcnekghmhaaW.PrintMore
attribute [local go_sem] max2_int min2_int max_two min_two max_three min_three max_four min_four   -- for this text's walks alone
set_option linter.unusedVariables false
set_option linter.unusedSimpArgs false

attribute [local go_sem high] eqA102
mutual
def prebendref13_SameJob.j0 : Nat → Bool → Int → Int → Int → Int → Int → Int → Int → Int → Int → Int → Int → List (S102) → Int → Int → Int → Int → Int → Int → Int → Int → Int → Int → Int → List (S102) → Option (Bool)
 | 0, _, _, _, _, _, _, _, _, _, _, _, _, _, _, _, _, _, _, _, _, _, _, _, _, _ => none
 | k + 1, x89, x620000, x620001, x620002, x620003, x620004, x620005, x620006, x620007, x620008, x620009, x620010, x620011, x621000, x621001, x621002, x621003, x621004, x621005, x621006, x621007, x621008, x621009, x621010, x621011 => if x89 = true then (some false) else (prebendref13_SameJob.l0 k 0 x620000 x620001 x620002 x620003 x620004 x620005 x620006 x620007 x620008 x620009 x620010 x620011 x621000 x621001 x621002 x621003 x621004 x621005 x621006 x621007 x621008 x621009 x621010 x621011)
def prebendref13_SameJob.l0 : Nat → Int → Int → Int → Int → Int → Int → Int → Int → Int → Int → Int → Int → List (S102) → Int → Int → Int → Int → Int → Int → Int → Int → Int → Int → Int → List (S102) → Option (Bool)
 | 0, _, _, _, _, _, _, _, _, _, _, _, _, _, _, _, _, _, _, _, _, _, _, _, _, _ => none
 | k + 1, x5, x620000, x620001, x620002, x620003, x620004, x620005, x620006, x620007, x620008, x620009, x620010, x620011, x621000, x621001, x621002, x621003, x621004, x621005, x621006, x621007, x621008, x621009, x621010, x621011 => if x5 < (x620011.length : Int) then (if 0 ≤ x5 then (if x5 < (x621011.length : Int) then (if (!(((rd_T102 x620011 x5).f0) == ((rd_T102 x621011 x5).f0)) || (!(((rd_T102 x620011 x5).f1) == ((rd_T102 x621011 x5).f1)))) = true then (some false) else (prebendref13_SameJob.l0 k (wrap64 (x5 + 1)) x620000 x620001 x620002 x620003 x620004 x620005 x620006 x620007 x620008 x620009 x620010 x620011 x621000 x621001 x621002 x621003 x621004 x621005 x621006 x621007 x621008 x621009 x621010 x621011)) else (none)) else (none)) else (some true)
end
def prebendref13_SameJob.f (k : Nat) (a0_0 : Int) (a0_1 : Int) (a0_2 : Int) (a0_3 : Int) (a0_4 : Int) (a0_5 : Int) (a0_6 : Int) (a0_7 : Int) (a0_8 : Int) (a0_9 : Int) (a0_10 : Int) (l0_11 : List (S102)) (a1_0 : Int) (a1_1 : Int) (a1_2 : Int) (a1_3 : Int) (a1_4 : Int) (a1_5 : Int) (a1_6 : Int) (a1_7 : Int) (a1_8 : Int) (a1_9 : Int) (a1_10 : Int) (l1_11 : List (S102)) : Option (Bool) := if a0_0 = a1_0 then (if a0_1 = a1_1 then (if a0_2 = a1_2 then (if a0_3 = a1_3 then (if a0_4 = a1_4 then (if a0_5 = a1_5 then (if a0_6 = a1_6 then (if a0_7 = a1_7 then (if a0_8 = a1_8 then (if a0_9 = a1_9 then (if a0_10 = a1_10 then (prebendref13_SameJob.j0 k ((l0_11.length : Int) != (l1_11.length : Int)) a0_0 a0_1 a0_2 a0_3 a0_4 a0_5 a0_6 a0_7 a0_8 a0_9 a0_10 l0_11 a1_0 a1_1 a1_2 a1_3 a1_4 a1_5 a1_6 a1_7 a1_8 a1_9 a1_10 l1_11) else (prebendref13_SameJob.j0 k true a0_0 a0_1 a0_2 a0_3 a0_4 a0_5 a0_6 a0_7 a0_8 a0_9 a0_10 l0_11 a1_0 a1_1 a1_2 a1_3 a1_4 a1_5 a1_6 a1_7 a1_8 a1_9 a1_10 l1_11)) else (prebendref13_SameJob.j0 k true a0_0 a0_1 a0_2 a0_3 a0_4 a0_5 a0_6 a0_7 a0_8 a0_9 a0_10 l0_11 a1_0 a1_1 a1_2 a1_3 a1_4 a1_5 a1_6 a1_7 a1_8 a1_9 a1_10 l1_11)) else (prebendref13_SameJob.j0 k true a0_0 a0_1 a0_2 a0_3 a0_4 a0_5 a0_6 a0_7 a0_8 a0_9 a0_10 l0_11 a1_0 a1_1 a1_2 a1_3 a1_4 a1_5 a1_6 a1_7 a1_8 a1_9 a1_10 l1_11)) else (prebendref13_SameJob.j0 k true a0_0 a0_1 a0_2 a0_3 a0_4 a0_5 a0_6 a0_7 a0_8 a0_9 a0_10 l0_11 a1_0 a1_1 a1_2 a1_3 a1_4 a1_5 a1_6 a1_7 a1_8 a1_9 a1_10 l1_11)) else (prebendref13_SameJob.j0 k true a0_0 a0_1 a0_2 a0_3 a0_4 a0_5 a0_6 a0_7 a0_8 a0_9 a0_10 l0_11 a1_0 a1_1 a1_2 a1_3 a1_4 a1_5 a1_6 a1_7 a1_8 a1_9 a1_10 l1_11)) else (prebendref13_SameJob.j0 k true a0_0 a0_1 a0_2 a0_3 a0_4 a0_5 a0_6 a0_7 a0_8 a0_9 a0_10 l0_11 a1_0 a1_1 a1_2 a1_3 a1_4 a1_5 a1_6 a1_7 a1_8 a1_9 a1_10 l1_11)) else (prebendref13_SameJob.j0 k true a0_0 a0_1 a0_2 a0_3 a0_4 a0_5 a0_6 a0_7 a0_8 a0_9 a0_10 l0_11 a1_0 a1_1 a1_2 a1_3 a1_4 a1_5 a1_6 a1_7 a1_8 a1_9 a1_10 l1_11)) else (prebendref13_SameJob.j0 k true a0_0 a0_1 a0_2 a0_3 a0_4 a0_5 a0_6 a0_7 a0_8 a0_9 a0_10 l0_11 a1_0 a1_1 a1_2 a1_3 a1_4 a1_5 a1_6 a1_7 a1_8 a1_9 a1_10 l1_11)) else (prebendref13_SameJob.j0 k true a0_0 a0_1 a0_2 a0_3 a0_4 a0_5 a0_6 a0_7 a0_8 a0_9 a0_10 l0_11 a1_0 a1_1 a1_2 a1_3 a1_4 a1_5 a1_6 a1_7 a1_8 a1_9 a1_10 l1_11)) else (prebendref13_SameJob.j0 k true a0_0 a0_1 a0_2 a0_3 a0_4 a0_5 a0_6 a0_7 a0_8 a0_9 a0_10 l0_11 a1_0 a1_1 a1_2 a1_3 a1_4 a1_5 a1_6 a1_7 a1_8 a1_9 a1_10 l1_11)) else (prebendref13_SameJob.j0 k true a0_0 a0_1 a0_2 a0_3 a0_4 a0_5 a0_6 a0_7 a0_8 a0_9 a0_10 l0_11 a1_0 a1_1 a1_2 a1_3 a1_4 a1_5 a1_6 a1_7 a1_8 a1_9 a1_10 l1_11)
theorem prebendref13_SameJob.mono_l : ∀ k, (∀ y0 y1 y2 y3 y4 y5 y6 y7 y8 y9 y10 y11 y12 y13 y14 y15 y16 y17 y18 y19 y20 y21 y22 y23 y24, LeO (prebendref13_SameJob.j0 k y0 y1 y2 y3 y4 y5 y6 y7 y8 y9 y10 y11 y12 y13 y14 y15 y16 y17 y18 y19 y20 y21 y22 y23 y24) (prebendref13_SameJob.j0 (k + 1) y0 y1 y2 y3 y4 y5 y6 y7 y8 y9 y10 y11 y12 y13 y14 y15 y16 y17 y18 y19 y20 y21 y22 y23 y24)) ∧ (∀ y0 y1 y2 y3 y4 y5 y6 y7 y8 y9 y10 y11 y12 y13 y14 y15 y16 y17 y18 y19 y20 y21 y22 y23 y24, LeO (prebendref13_SameJob.l0 k y0 y1 y2 y3 y4 y5 y6 y7 y8 y9 y10 y11 y12 y13 y14 y15 y16 y17 y18 y19 y20 y21 y22 y23 y24) (prebendref13_SameJob.l0 (k + 1) y0 y1 y2 y3 y4 y5 y6 y7 y8 y9 y10 y11 y12 y13 y14 y15 y16 y17 y18 y19 y20 y21 y22 y23 y24))
 | 0 => ⟨fun _ _ _ _ _ _ _ _ _ _ _ _ _ _ _ _ _ _ _ _ _ _ _ _ _ r h => by simp [prebendref13_SameJob.j0] at h, fun _ _ _ _ _ _ _ _ _ _ _ _ _ _ _ _ _ _ _ _ _ _ _ _ _ r h => by simp [prebendref13_SameJob.l0] at h⟩
 | k + 1 => by
  obtain ⟨ih0, ih1⟩ := prebendref13_SameJob.mono_l k
  refine ⟨?_, ?_⟩
  ·intro y0 y1 y2 y3 y4 y5 y6 y7 y8 y9 y10 y11 y12 y13 y14 y15 y16 y17 y18 y19 y20 y21 y22 y23 y24
   unfold prebendref13_SameJob.j0
   repeat' first
   | (with_reducible exact ih0 _ _ _ _ _ _ _ _ _ _ _ _ _ _ _ _ _ _ _ _ _ _ _ _ _)
   | (with_reducible exact ih1 _ _ _ _ _ _ _ _ _ _ _ _ _ _ _ _ _ _ _ _ _ _ _ _ _)
   | (with_reducible exact LeO.refl _)
   | (with_reducible exact LeO.none _)
   | (with_reducible refine LeO.ite ?_ ?_)
   | (with_reducible refine LeO.bind ?_ (fun _ => ?_))
   | exact ih0 _ _ _ _ _ _ _ _ _ _ _ _ _ _ _ _ _ _ _ _ _ _ _ _ _
   | exact ih1 _ _ _ _ _ _ _ _ _ _ _ _ _ _ _ _ _ _ _ _ _ _ _ _ _
   | exact LeO.none _
   | refine LeO.ite ?_ ?_
   | refine LeO.bind ?_ (fun _ => ?_)
  ·intro y0 y1 y2 y3 y4 y5 y6 y7 y8 y9 y10 y11 y12 y13 y14 y15 y16 y17 y18 y19 y20 y21 y22 y23 y24
   unfold prebendref13_SameJob.l0
   repeat' first
   | (with_reducible exact ih0 _ _ _ _ _ _ _ _ _ _ _ _ _ _ _ _ _ _ _ _ _ _ _ _ _)
   | (with_reducible exact ih1 _ _ _ _ _ _ _ _ _ _ _ _ _ _ _ _ _ _ _ _ _ _ _ _ _)
   | (with_reducible exact LeO.refl _)
   | (with_reducible exact LeO.none _)
   | (with_reducible refine LeO.ite ?_ ?_)
   | (with_reducible refine LeO.bind ?_ (fun _ => ?_))
   | exact ih0 _ _ _ _ _ _ _ _ _ _ _ _ _ _ _ _ _ _ _ _ _ _ _ _ _
   | exact ih1 _ _ _ _ _ _ _ _ _ _ _ _ _ _ _ _ _ _ _ _ _ _ _ _ _
   | exact LeO.none _
   | refine LeO.ite ?_ ?_
   | refine LeO.bind ?_ (fun _ => ?_)
theorem prebendref13_SameJob.mono : ∀ a0 a1 a2 a3 a4 a5 a6 a7 a8 a9 a10 a11 a12 a13 a14 a15 a16 a17 a18 a19 a20 a21 a22 a23 k, LeO (prebendref13_SameJob.f k a0 a1 a2 a3 a4 a5 a6 a7 a8 a9 a10 a11 a12 a13 a14 a15 a16 a17 a18 a19 a20 a21 a22 a23) (prebendref13_SameJob.f (k + 1) a0 a1 a2 a3 a4 a5 a6 a7 a8 a9 a10 a11 a12 a13 a14 a15 a16 a17 a18 a19 a20 a21 a22 a23) := by
 intro a0 a1 a2 a3 a4 a5 a6 a7 a8 a9 a10 a11 a12 a13 a14 a15 a16 a17 a18 a19 a20 a21 a22 a23 k
 obtain ⟨ih0, ih1⟩ := prebendref13_SameJob.mono_l k
 unfold prebendref13_SameJob.f
 repeat' first
   | (with_reducible exact ih0 _ _ _ _ _ _ _ _ _ _ _ _ _ _ _ _ _ _ _ _ _ _ _ _ _)
   | (with_reducible exact ih1 _ _ _ _ _ _ _ _ _ _ _ _ _ _ _ _ _ _ _ _ _ _ _ _ _)
   | (with_reducible exact LeO.refl _)
   | (with_reducible exact LeO.none _)
   | (with_reducible refine LeO.ite ?_ ?_)
   | (with_reducible refine LeO.bind ?_ (fun _ => ?_))
   | exact ih0 _ _ _ _ _ _ _ _ _ _ _ _ _ _ _ _ _ _ _ _ _ _ _ _ _
   | exact ih1 _ _ _ _ _ _ _ _ _ _ _ _ _ _ _ _ _ _ _ _ _ _ _ _ _
   | exact LeO.none _
   | refine LeO.ite ?_ ?_
   | refine LeO.bind ?_ (fun _ => ?_)
set_option maxHeartbeats 8000000 in
set_option maxRecDepth 100000 in
theorem prebendref13_SameJob.calls (k : Nat) (a0_0 : Int) (a0_1 : Int) (a0_2 : Int) (a0_3 : Int) (a0_4 : Int) (a0_5 : Int) (a0_6 : Int) (a0_7 : Int) (a0_8 : Int) (a0_9 : Int) (a0_10 : Int) (A0_11 : Option Addr) (c0_11 : Nat) (l0_11 : List (S102)) (a1_0 : Int) (a1_1 : Int) (a1_2 : Int) (a1_3 : Int) (a1_4 : Int) (a1_5 : Int) (a1_6 : Int) (a1_7 : Int) (a1_8 : Int) (a1_9 : Int) (a1_10 : Int) (A1_11 : Option Addr) (c1_11 : Nat) (l1_11 : List (S102)) (r : Bool) (w : World) (hr0_11 : Kd.C k102 w A0_11 l0_11.length l0_11) (hc0_11 : l0_11.length ≤ c0_11) (hr1_11 : Kd.C k102 w A1_11 l1_11.length l1_11) (hc1_11 : l1_11.length ≤ c1_11) (h : prebendref13_SameJob.f k a0_0 a0_1 a0_2 a0_3 a0_4 a0_5 a0_6 a0_7 a0_8 a0_9 a0_10 l0_11 a1_0 a1_1 a1_2 a1_3 a1_4 a1_5 a1_6 a1_7 a1_8 a1_9 a1_10 l1_11 = some r) :
  Calls Try.prog 66 #[.agg #[.int .i64 a0_0, .int .i64 a0_1, .int .i64 a0_2, .int .i64 a0_3, .int .i64 a0_4, .int .i64 a0_5, .int .i64 a0_6, .int .i64 a0_7, .int .i64 a0_8, .int .i64 a0_9, .int .i64 a0_10, .slice A0_11 l0_11.length c0_11], .agg #[.int .i64 a1_0, .int .i64 a1_1, .int .i64 a1_2, .int .i64 a1_3, .int .i64 a1_4, .int .i64 a1_5, .int .i64 a1_6, .int .i64 a1_7, .int .i64 a1_8, .int .i64 a1_9, .int .i64 a1_10, .slice A1_11 l1_11.length c1_11]] w fun e w' => e = .returned (.bool r) ∧ Below w.heap.size w w' := by
 have hu100 := Try.underlying100
 have hu102 := Try.underlying102
 have HR0_11 := Aside0.mk hr0_11
 have HC0_11 := Aside0.mk hc0_11
 clear hr0_11; clear hc0_11
 have HR1_11 := Aside0.mk hr1_11
 have HC1_11 := Aside0.mk hc1_11
 clear hr1_11; clear hc1_11
 have HB := Aside0.mk (Below.refl w.heap.size w)
 have H : (if a0_0 = a1_0 then (if a0_1 = a1_1 then (if a0_2 = a1_2 then (if a0_3 = a1_3 then (if a0_4 = a1_4 then (if a0_5 = a1_5 then (if a0_6 = a1_6 then (if a0_7 = a1_7 then (if a0_8 = a1_8 then (if a0_9 = a1_9 then (if a0_10 = a1_10 then (prebendref13_SameJob.j0 k ((l0_11.length : Int) != (l1_11.length : Int)) a0_0 a0_1 a0_2 a0_3 a0_4 a0_5 a0_6 a0_7 a0_8 a0_9 a0_10 l0_11 a1_0 a1_1 a1_2 a1_3 a1_4 a1_5 a1_6 a1_7 a1_8 a1_9 a1_10 l1_11) else (prebendref13_SameJob.j0 k true a0_0 a0_1 a0_2 a0_3 a0_4 a0_5 a0_6 a0_7 a0_8 a0_9 a0_10 l0_11 a1_0 a1_1 a1_2 a1_3 a1_4 a1_5 a1_6 a1_7 a1_8 a1_9 a1_10 l1_11)) else (prebendref13_SameJob.j0 k true a0_0 a0_1 a0_2 a0_3 a0_4 a0_5 a0_6 a0_7 a0_8 a0_9 a0_10 l0_11 a1_0 a1_1 a1_2 a1_3 a1_4 a1_5 a1_6 a1_7 a1_8 a1_9 a1_10 l1_11)) else (prebendref13_SameJob.j0 k true a0_0 a0_1 a0_2 a0_3 a0_4 a0_5 a0_6 a0_7 a0_8 a0_9 a0_10 l0_11 a1_0 a1_1 a1_2 a1_3 a1_4 a1_5 a1_6 a1_7 a1_8 a1_9 a1_10 l1_11)) else (prebendref13_SameJob.j0 k true a0_0 a0_1 a0_2 a0_3 a0_4 a0_5 a0_6 a0_7 a0_8 a0_9 a0_10 l0_11 a1_0 a1_1 a1_2 a1_3 a1_4 a1_5 a1_6 a1_7 a1_8 a1_9 a1_10 l1_11)) else (prebendref13_SameJob.j0 k true a0_0 a0_1 a0_2 a0_3 a0_4 a0_5 a0_6 a0_7 a0_8 a0_9 a0_10 l0_11 a1_0 a1_1 a1_2 a1_3 a1_4 a1_5 a1_6 a1_7 a1_8 a1_9 a1_10 l1_11)) else (prebendref13_SameJob.j0 k true a0_0 a0_1 a0_2 a0_3 a0_4 a0_5 a0_6 a0_7 a0_8 a0_9 a0_10 l0_11 a1_0 a1_1 a1_2 a1_3 a1_4 a1_5 a1_6 a1_7 a1_8 a1_9 a1_10 l1_11)) else (prebendref13_SameJob.j0 k true a0_0 a0_1 a0_2 a0_3 a0_4 a0_5 a0_6 a0_7 a0_8 a0_9 a0_10 l0_11 a1_0 a1_1 a1_2 a1_3 a1_4 a1_5 a1_6 a1_7 a1_8 a1_9 a1_10 l1_11)) else (prebendref13_SameJob.j0 k true a0_0 a0_1 a0_2 a0_3 a0_4 a0_5 a0_6 a0_7 a0_8 a0_9 a0_10 l0_11 a1_0 a1_1 a1_2 a1_3 a1_4 a1_5 a1_6 a1_7 a1_8 a1_9 a1_10 l1_11)) else (prebendref13_SameJob.j0 k true a0_0 a0_1 a0_2 a0_3 a0_4 a0_5 a0_6 a0_7 a0_8 a0_9 a0_10 l0_11 a1_0 a1_1 a1_2 a1_3 a1_4 a1_5 a1_6 a1_7 a1_8 a1_9 a1_10 l1_11)) else (prebendref13_SameJob.j0 k true a0_0 a0_1 a0_2 a0_3 a0_4 a0_5 a0_6 a0_7 a0_8 a0_9 a0_10 l0_11 a1_0 a1_1 a1_2 a1_3 a1_4 a1_5 a1_6 a1_7 a1_8 a1_9 a1_10 l1_11)) else (prebendref13_SameJob.j0 k true a0_0 a0_1 a0_2 a0_3 a0_4 a0_5 a0_6 a0_7 a0_8 a0_9 a0_10 l0_11 a1_0 a1_1 a1_2 a1_3 a1_4 a1_5 a1_6 a1_7 a1_8 a1_9 a1_10 l1_11)) = some r := h
 clear h
 have HC3 := Aside0.mk H
 clear H
 go_enter Try.func66, Try.ntmps66
 go_upto_region 1 with (first | ((with_reducible refine gate_dst (N := 2) rfl ?_); (try (refine gate_guard (by rfl) ?_; dsimp only)); refine box_event ?hg (N := 2) ?hd (cs := #[.int .i64 a0_0, .int .i64 a0_1, .int .i64 a0_2, .int .i64 a0_3, .int .i64 a0_4, .int .i64 a0_5, .int .i64 a0_6, .int .i64 a0_7, .int .i64 a0_8, .int .i64 a0_9, .int .i64 a0_10, .slice A0_11 l0_11.length c0_11]) (t := 100) ?hr ?_; (case hd => rfl); (case hg => rfl); (case hr => first | (go_simp; done) | (go_simp; rfl)); intro gb619 hg w4 hbox hb; have n0_ := Aside0.mk (below_step (mB HB.out) hb); have n1_ := Aside0.mk (hbox); have n2_ := Aside0.mk ((by rw [hg]; exact (below_size (mB HB.out)) : w.heap.size ≤ gb619)); have n3_ := Aside0.mk ((by rw [hg]; exact (below_size (mB HB.out)) : w.heap.size ≤ gb619)); clear HB; have HB := n0_; have BK619 := n1_; have GW619 := n2_; have GE619 := n3_; clear n0_ n1_ n2_ n3_; clear hb hbox hg) | ((with_reducible refine gate_dst (N := 3) rfl ?_); (try (refine gate_guard (by rfl) ?_; dsimp only)); refine box_event ?hg (N := 3) ?hd (cs := #[.int .i64 a1_0, .int .i64 a1_1, .int .i64 a1_2, .int .i64 a1_3, .int .i64 a1_4, .int .i64 a1_5, .int .i64 a1_6, .int .i64 a1_7, .int .i64 a1_8, .int .i64 a1_9, .int .i64 a1_10, .slice A1_11 l1_11.length c1_11]) (t := 100) ?hr ?_; (case hd => rfl); (case hg => rfl); (case hr => first | (go_simp; done) | (go_simp; rfl)); intro gb620 hg w5 hbox hb; have n0_ := Aside0.mk (blk_below (g := gb619) (o := .cells #[.int .i64 a0_0, .int .i64 a0_1, .int .i64 a0_2, .int .i64 a0_3, .int .i64 a0_4, .int .i64 a0_5, .int .i64 a0_6, .int .i64 a0_7, .int .i64 a0_8, .int .i64 a0_9, .int .i64 a0_10, .slice A0_11 l0_11.length c0_11] 100 (0, 0)) (mBK BK619.out) hb); have n1_ := Aside0.mk (below_step (mBs HB.out) hb); have n2_ := Aside0.mk (hbox); have n3_ := Aside0.mk ((by rw [hg]; exact (below_size (mBs HB.out)) : w.heap.size ≤ gb620)); have n4_ := Aside0.mk ((by rw [hg]; exact (below_size (mBs HB.out)) : w.heap.size ≤ gb620)); have n5_ := Aside0.mk ((by rw [hg]; exact Nat.ne_of_lt (blk_lt (g := gb619) (o := .cells #[.int .i64 a0_0, .int .i64 a0_1, .int .i64 a0_2, .int .i64 a0_3, .int .i64 a0_4, .int .i64 a0_5, .int .i64 a0_6, .int .i64 a0_7, .int .i64 a0_8, .int .i64 a0_9, .int .i64 a0_10, .slice A0_11 l0_11.length c0_11] 100 (0, 0)) (mBK BK619.out)) : gb619 ≠ gb620)); have n6_ := Aside0.mk ((by rw [hg]; exact Nat.ne_of_gt (blk_lt (g := gb619) (o := .cells #[.int .i64 a0_0, .int .i64 a0_1, .int .i64 a0_2, .int .i64 a0_3, .int .i64 a0_4, .int .i64 a0_5, .int .i64 a0_6, .int .i64 a0_7, .int .i64 a0_8, .int .i64 a0_9, .int .i64 a0_10, .slice A0_11 l0_11.length c0_11] 100 (0, 0)) (mBK BK619.out)) : gb620 ≠ gb619)); clear BK619; clear HB; have BK619 := n0_; have HB := n1_; have BK620 := n2_; have GW620 := n3_; have GE620 := n4_; have NB619_620 := n5_; have NB620_619 := n6_; clear n0_ n1_ n2_ n3_ n4_ n5_ n6_; clear hb hbox hg))
 repeat (go_quiet (first | ((with_reducible refine gate_dst (N := 2) rfl ?_); (try (refine gate_guard (by rfl) ?_; dsimp only)); refine box_event ?hg (N := 2) ?hd (cs := #[.int .i64 a0_0, .int .i64 a0_1, .int .i64 a0_2, .int .i64 a0_3, .int .i64 a0_4, .int .i64 a0_5, .int .i64 a0_6, .int .i64 a0_7, .int .i64 a0_8, .int .i64 a0_9, .int .i64 a0_10, .slice A0_11 l0_11.length c0_11]) (t := 100) ?hr ?_; (case hd => rfl); (case hg => rfl); (case hr => first | (go_simp; done) | (go_simp; rfl)); intro gb619 hg w4 hbox hb; have n0_ := Aside0.mk (below_step (mB HB.out) hb); have n1_ := Aside0.mk (hbox); have n2_ := Aside0.mk ((by rw [hg]; exact (below_size (mB HB.out)) : w.heap.size ≤ gb619)); have n3_ := Aside0.mk ((by rw [hg]; exact (below_size (mB HB.out)) : w.heap.size ≤ gb619)); clear HB; have HB := n0_; have BK619 := n1_; have GW619 := n2_; have GE619 := n3_; clear n0_ n1_ n2_ n3_; clear hb hbox hg) | ((with_reducible refine gate_dst (N := 3) rfl ?_); (try (refine gate_guard (by rfl) ?_; dsimp only)); refine box_event ?hg (N := 3) ?hd (cs := #[.int .i64 a1_0, .int .i64 a1_1, .int .i64 a1_2, .int .i64 a1_3, .int .i64 a1_4, .int .i64 a1_5, .int .i64 a1_6, .int .i64 a1_7, .int .i64 a1_8, .int .i64 a1_9, .int .i64 a1_10, .slice A1_11 l1_11.length c1_11]) (t := 100) ?hr ?_; (case hd => rfl); (case hg => rfl); (case hr => first | (go_simp; done) | (go_simp; rfl)); intro gb620 hg w5 hbox hb; have n0_ := Aside0.mk (blk_below (g := gb619) (o := .cells #[.int .i64 a0_0, .int .i64 a0_1, .int .i64 a0_2, .int .i64 a0_3, .int .i64 a0_4, .int .i64 a0_5, .int .i64 a0_6, .int .i64 a0_7, .int .i64 a0_8, .int .i64 a0_9, .int .i64 a0_10, .slice A0_11 l0_11.length c0_11] 100 (0, 0)) (mBK BK619.out) hb); have n1_ := Aside0.mk (below_step (mBs HB.out) hb); have n2_ := Aside0.mk (hbox); have n3_ := Aside0.mk ((by rw [hg]; exact (below_size (mBs HB.out)) : w.heap.size ≤ gb620)); have n4_ := Aside0.mk ((by rw [hg]; exact (below_size (mBs HB.out)) : w.heap.size ≤ gb620)); have n5_ := Aside0.mk ((by rw [hg]; exact Nat.ne_of_lt (blk_lt (g := gb619) (o := .cells #[.int .i64 a0_0, .int .i64 a0_1, .int .i64 a0_2, .int .i64 a0_3, .int .i64 a0_4, .int .i64 a0_5, .int .i64 a0_6, .int .i64 a0_7, .int .i64 a0_8, .int .i64 a0_9, .int .i64 a0_10, .slice A0_11 l0_11.length c0_11] 100 (0, 0)) (mBK BK619.out)) : gb619 ≠ gb620)); have n6_ := Aside0.mk ((by rw [hg]; exact Nat.ne_of_gt (blk_lt (g := gb619) (o := .cells #[.int .i64 a0_0, .int .i64 a0_1, .int .i64 a0_2, .int .i64 a0_3, .int .i64 a0_4, .int .i64 a0_5, .int .i64 a0_6, .int .i64 a0_7, .int .i64 a0_8, .int .i64 a0_9, .int .i64 a0_10, .slice A0_11 l0_11.length c0_11] 100 (0, 0)) (mBK BK619.out)) : gb620 ≠ gb619)); clear BK619; clear HB; have BK619 := n0_; have HB := n1_; have BK620 := n2_; have GW620 := n3_; have GE620 := n4_; have NB619_620 := n5_; have NB620_619 := n6_; clear n0_ n1_ n2_ n3_ n4_ n5_ n6_; clear hb hbox hg)); go_upto_region 1 with (first | ((with_reducible refine gate_dst (N := 2) rfl ?_); (try (refine gate_guard (by rfl) ?_; dsimp only)); refine box_event ?hg (N := 2) ?hd (cs := #[.int .i64 a0_0, .int .i64 a0_1, .int .i64 a0_2, .int .i64 a0_3, .int .i64 a0_4, .int .i64 a0_5, .int .i64 a0_6, .int .i64 a0_7, .int .i64 a0_8, .int .i64 a0_9, .int .i64 a0_10, .slice A0_11 l0_11.length c0_11]) (t := 100) ?hr ?_; (case hd => rfl); (case hg => rfl); (case hr => first | (go_simp; done) | (go_simp; rfl)); intro gb619 hg w4 hbox hb; have n0_ := Aside0.mk (below_step (mB HB.out) hb); have n1_ := Aside0.mk (hbox); have n2_ := Aside0.mk ((by rw [hg]; exact (below_size (mB HB.out)) : w.heap.size ≤ gb619)); have n3_ := Aside0.mk ((by rw [hg]; exact (below_size (mB HB.out)) : w.heap.size ≤ gb619)); clear HB; have HB := n0_; have BK619 := n1_; have GW619 := n2_; have GE619 := n3_; clear n0_ n1_ n2_ n3_; clear hb hbox hg) | ((with_reducible refine gate_dst (N := 3) rfl ?_); (try (refine gate_guard (by rfl) ?_; dsimp only)); refine box_event ?hg (N := 3) ?hd (cs := #[.int .i64 a1_0, .int .i64 a1_1, .int .i64 a1_2, .int .i64 a1_3, .int .i64 a1_4, .int .i64 a1_5, .int .i64 a1_6, .int .i64 a1_7, .int .i64 a1_8, .int .i64 a1_9, .int .i64 a1_10, .slice A1_11 l1_11.length c1_11]) (t := 100) ?hr ?_; (case hd => rfl); (case hg => rfl); (case hr => first | (go_simp; done) | (go_simp; rfl)); intro gb620 hg w5 hbox hb; have n0_ := Aside0.mk (blk_below (g := gb619) (o := .cells #[.int .i64 a0_0, .int .i64 a0_1, .int .i64 a0_2, .int .i64 a0_3, .int .i64 a0_4, .int .i64 a0_5, .int .i64 a0_6, .int .i64 a0_7, .int .i64 a0_8, .int .i64 a0_9, .int .i64 a0_10, .slice A0_11 l0_11.length c0_11] 100 (0, 0)) (mBK BK619.out) hb); have n1_ := Aside0.mk (below_step (mBs HB.out) hb); have n2_ := Aside0.mk (hbox); have n3_ := Aside0.mk ((by rw [hg]; exact (below_size (mBs HB.out)) : w.heap.size ≤ gb620)); have n4_ := Aside0.mk ((by rw [hg]; exact (below_size (mBs HB.out)) : w.heap.size ≤ gb620)); have n5_ := Aside0.mk ((by rw [hg]; exact Nat.ne_of_lt (blk_lt (g := gb619) (o := .cells #[.int .i64 a0_0, .int .i64 a0_1, .int .i64 a0_2, .int .i64 a0_3, .int .i64 a0_4, .int .i64 a0_5, .int .i64 a0_6, .int .i64 a0_7, .int .i64 a0_8, .int .i64 a0_9, .int .i64 a0_10, .slice A0_11 l0_11.length c0_11] 100 (0, 0)) (mBK BK619.out)) : gb619 ≠ gb620)); have n6_ := Aside0.mk ((by rw [hg]; exact Nat.ne_of_gt (blk_lt (g := gb619) (o := .cells #[.int .i64 a0_0, .int .i64 a0_1, .int .i64 a0_2, .int .i64 a0_3, .int .i64 a0_4, .int .i64 a0_5, .int .i64 a0_6, .int .i64 a0_7, .int .i64 a0_8, .int .i64 a0_9, .int .i64 a0_10, .slice A0_11 l0_11.length c0_11] 100 (0, 0)) (mBK BK619.out)) : gb620 ≠ gb619)); clear BK619; clear HB; have BK619 := n0_; have HB := n1_; have BK620 := n2_; have GW620 := n3_; have GE620 := n4_; have NB619_620 := n5_; have NB620_619 := n6_; clear n0_ n1_ n2_ n3_ n4_ n5_ n6_; clear hb hbox hg)))
 (try simp only [Act.put, List.setIfInBounds_toArray, List.set_cons_zero, List.set_cons_succ])
 go_cut [89] (fun v89 wc => ∃ (kq : Nat) (x89_2 : Bool), v89 = .bool x89_2 ∧ Aside0 (prebendref13_SameJob.j0 kq x89_2 a0_0 a0_1 a0_2 a0_3 a0_4 a0_5 a0_6 a0_7 a0_8 a0_9 a0_10 l0_11 a1_0 a1_1 a1_2 a1_3 a1_4 a1_5 a1_6 a1_7 a1_8 a1_9 a1_10 l1_11 = some r) ∧ Aside0 (kq ≤ k) ∧ Aside0 (wc.heap[gb619]? = some (.cells #[.int .i64 a0_0, .int .i64 a0_1, .int .i64 a0_2, .int .i64 a0_3, .int .i64 a0_4, .int .i64 a0_5, .int .i64 a0_6, .int .i64 a0_7, .int .i64 a0_8, .int .i64 a0_9, .int .i64 a0_10, (.slice A0_11 l0_11.length c0_11)] 100 (0, 0))) ∧ Aside0 (wc.heap[gb620]? = some (.cells #[.int .i64 a1_0, .int .i64 a1_1, .int .i64 a1_2, .int .i64 a1_3, .int .i64 a1_4, .int .i64 a1_5, .int .i64 a1_6, .int .i64 a1_7, .int .i64 a1_8, .int .i64 a1_9, .int .i64 a1_10, (.slice A1_11 l1_11.length c1_11)] 100 (0, 0))) ∧ Aside0 (Below w.heap.size w wc))
 case first =>
  have H := HC3.out
  clear HC3
  by_cases c6 : a0_0 = a1_0
  ·rw [if_pos c6] at H
   have c6b0 : (a0_0 == a1_0) = true := beq_iff_eq.mpr c6
   have c6b1 : (a0_0 != a1_0) = false := bne_eq_false_iff_eq.mpr c6
   clear c6
   (first | rw [c6b0] | (simp only [i64_w, i32_w]; rw [c6b0]) | skip)
   by_cases c7 : a0_1 = a1_1
   ·rw [if_pos c7] at H
    have c7b0 : (a0_1 == a1_1) = true := beq_iff_eq.mpr c7
    have c7b1 : (a0_1 != a1_1) = false := bne_eq_false_iff_eq.mpr c7
    clear c7
    by_cases c8 : a0_2 = a1_2
    ·rw [if_pos c8] at H
     have c8b0 : (a0_2 == a1_2) = true := beq_iff_eq.mpr c8
     have c8b1 : (a0_2 != a1_2) = false := bne_eq_false_iff_eq.mpr c8
     clear c8
     by_cases c9 : a0_3 = a1_3
     ·rw [if_pos c9] at H
      have c9b0 : (a0_3 == a1_3) = true := beq_iff_eq.mpr c9
      have c9b1 : (a0_3 != a1_3) = false := bne_eq_false_iff_eq.mpr c9
      clear c9
      by_cases c10 : a0_4 = a1_4
      ·rw [if_pos c10] at H
       have c10b0 : (a0_4 == a1_4) = true := beq_iff_eq.mpr c10
       have c10b1 : (a0_4 != a1_4) = false := bne_eq_false_iff_eq.mpr c10
       clear c10
       by_cases c11 : a0_5 = a1_5
       ·rw [if_pos c11] at H
        have c11b0 : (a0_5 == a1_5) = true := beq_iff_eq.mpr c11
        have c11b1 : (a0_5 != a1_5) = false := bne_eq_false_iff_eq.mpr c11
        clear c11
        by_cases c12 : a0_6 = a1_6
        ·rw [if_pos c12] at H
         have c12b0 : (a0_6 == a1_6) = true := beq_iff_eq.mpr c12
         have c12b1 : (a0_6 != a1_6) = false := bne_eq_false_iff_eq.mpr c12
         clear c12
         by_cases c13 : a0_7 = a1_7
         ·rw [if_pos c13] at H
          have c13b0 : (a0_7 == a1_7) = true := beq_iff_eq.mpr c13
          have c13b1 : (a0_7 != a1_7) = false := bne_eq_false_iff_eq.mpr c13
          clear c13
          by_cases c14 : a0_8 = a1_8
          ·rw [if_pos c14] at H
           have c14b0 : (a0_8 == a1_8) = true := beq_iff_eq.mpr c14
           have c14b1 : (a0_8 != a1_8) = false := bne_eq_false_iff_eq.mpr c14
           clear c14
           by_cases c15 : a0_9 = a1_9
           ·rw [if_pos c15] at H
            have c15b0 : (a0_9 == a1_9) = true := beq_iff_eq.mpr c15
            have c15b1 : (a0_9 != a1_9) = false := bne_eq_false_iff_eq.mpr c15
            clear c15
            by_cases c16 : a0_10 = a1_10
            ·rw [if_pos c16] at H
             have c16b0 : (a0_10 == a1_10) = true := beq_iff_eq.mpr c16
             have c16b1 : (a0_10 != a1_10) = false := bne_eq_false_iff_eq.mpr c16
             clear c16
             have H' := Aside0.mk H
             clear H
             have hnb17 := NB619_620.out
             have hnc17 := NB620_619.out
             have hcz18_0 : w5.cell? ⟨gb619, 0, none⟩ = some (.int .i64 a0_0) := (blk_cell BK619.out 0).trans rfl
             have hcz18_1 : w5.cell? ⟨gb619, 1, none⟩ = some (.int .i64 a0_1) := (blk_cell BK619.out 1).trans rfl
             have hcz18_2 : w5.cell? ⟨gb619, 2, none⟩ = some (.int .i64 a0_2) := (blk_cell BK619.out 2).trans rfl
             have hcz18_3 : w5.cell? ⟨gb619, 3, none⟩ = some (.int .i64 a0_3) := (blk_cell BK619.out 3).trans rfl
             have hcz18_4 : w5.cell? ⟨gb619, 4, none⟩ = some (.int .i64 a0_4) := (blk_cell BK619.out 4).trans rfl
             have hcz18_5 : w5.cell? ⟨gb619, 5, none⟩ = some (.int .i64 a0_5) := (blk_cell BK619.out 5).trans rfl
             have hcz18_6 : w5.cell? ⟨gb619, 6, none⟩ = some (.int .i64 a0_6) := (blk_cell BK619.out 6).trans rfl
             have hcz18_7 : w5.cell? ⟨gb619, 7, none⟩ = some (.int .i64 a0_7) := (blk_cell BK619.out 7).trans rfl
             have hcz18_8 : w5.cell? ⟨gb619, 8, none⟩ = some (.int .i64 a0_8) := (blk_cell BK619.out 8).trans rfl
             have hcz18_9 : w5.cell? ⟨gb619, 9, none⟩ = some (.int .i64 a0_9) := (blk_cell BK619.out 9).trans rfl
             have hcz18_10 : w5.cell? ⟨gb619, 10, none⟩ = some (.int .i64 a0_10) := (blk_cell BK619.out 10).trans rfl
             have hcz18_11 : w5.cell? ⟨gb619, 11, none⟩ = some (.slice A0_11 l0_11.length c0_11) := (blk_cell BK619.out 11).trans rfl
             have hfz18_0 := blk_frozen BK619.out 0
             have hfz18_1 := blk_frozen BK619.out 1
             have hfz18_2 := blk_frozen BK619.out 2
             have hfz18_3 := blk_frozen BK619.out 3
             have hfz18_4 := blk_frozen BK619.out 4
             have hfz18_5 := blk_frozen BK619.out 5
             have hfz18_6 := blk_frozen BK619.out 6
             have hfz18_7 := blk_frozen BK619.out 7
             have hfz18_8 := blk_frozen BK619.out 8
             have hfz18_9 := blk_frozen BK619.out 9
             have hfz18_10 := blk_frozen BK619.out 10
             have hfz18_11 := blk_frozen BK619.out 11
             have hcz19_0 : w5.cell? ⟨gb620, 0, none⟩ = some (.int .i64 a1_0) := (blk_cell BK620.out 0).trans rfl
             have hcz19_1 : w5.cell? ⟨gb620, 1, none⟩ = some (.int .i64 a1_1) := (blk_cell BK620.out 1).trans rfl
             have hcz19_2 : w5.cell? ⟨gb620, 2, none⟩ = some (.int .i64 a1_2) := (blk_cell BK620.out 2).trans rfl
             have hcz19_3 : w5.cell? ⟨gb620, 3, none⟩ = some (.int .i64 a1_3) := (blk_cell BK620.out 3).trans rfl
             have hcz19_4 : w5.cell? ⟨gb620, 4, none⟩ = some (.int .i64 a1_4) := (blk_cell BK620.out 4).trans rfl
             have hcz19_5 : w5.cell? ⟨gb620, 5, none⟩ = some (.int .i64 a1_5) := (blk_cell BK620.out 5).trans rfl
             have hcz19_6 : w5.cell? ⟨gb620, 6, none⟩ = some (.int .i64 a1_6) := (blk_cell BK620.out 6).trans rfl
             have hcz19_7 : w5.cell? ⟨gb620, 7, none⟩ = some (.int .i64 a1_7) := (blk_cell BK620.out 7).trans rfl
             have hcz19_8 : w5.cell? ⟨gb620, 8, none⟩ = some (.int .i64 a1_8) := (blk_cell BK620.out 8).trans rfl
             have hcz19_9 : w5.cell? ⟨gb620, 9, none⟩ = some (.int .i64 a1_9) := (blk_cell BK620.out 9).trans rfl
             have hcz19_10 : w5.cell? ⟨gb620, 10, none⟩ = some (.int .i64 a1_10) := (blk_cell BK620.out 10).trans rfl
             have hcz19_11 : w5.cell? ⟨gb620, 11, none⟩ = some (.slice A1_11 l1_11.length c1_11) := (blk_cell BK620.out 11).trans rfl
             have hfz19_0 := blk_frozen BK620.out 0
             have hfz19_1 := blk_frozen BK620.out 1
             have hfz19_2 := blk_frozen BK620.out 2
             have hfz19_3 := blk_frozen BK620.out 3
             have hfz19_4 := blk_frozen BK620.out 4
             have hfz19_5 := blk_frozen BK620.out 5
             have hfz19_6 := blk_frozen BK620.out 6
             have hfz19_7 := blk_frozen BK620.out 7
             have hfz19_8 := blk_frozen BK620.out 8
             have hfz19_9 := blk_frozen BK620.out 9
             have hfz19_10 := blk_frozen BK620.out 10
             have hfz19_11 := blk_frozen BK620.out 11
             go_wp2
             repeat (go_quiet (fail); try go_wp2)
             go_meet
             case rel => exact ⟨_, (((l0_11.length : Int) != (l1_11.length : Int))), ez, H', ⟨by first | omega | exact Nat.le_refl _⟩, ⟨mBK BK619.out⟩, ⟨mBK BK620.out⟩, ⟨mBs HB.out⟩⟩
            ·rw [if_neg c16] at H
             have c16b0 : (a0_10 == a1_10) = false := beq_eq_false_iff_ne.mpr c16
             have c16b1 : (a0_10 != a1_10) = true := bne_iff_ne.mpr c16
             have H' := Aside0.mk H
             clear H
             have hnb20 := NB619_620.out
             have hnc20 := NB620_619.out
             have hcz21_0 : w5.cell? ⟨gb619, 0, none⟩ = some (.int .i64 a0_0) := (blk_cell BK619.out 0).trans rfl
             have hcz21_1 : w5.cell? ⟨gb619, 1, none⟩ = some (.int .i64 a0_1) := (blk_cell BK619.out 1).trans rfl
             have hcz21_2 : w5.cell? ⟨gb619, 2, none⟩ = some (.int .i64 a0_2) := (blk_cell BK619.out 2).trans rfl
             have hcz21_3 : w5.cell? ⟨gb619, 3, none⟩ = some (.int .i64 a0_3) := (blk_cell BK619.out 3).trans rfl
             have hcz21_4 : w5.cell? ⟨gb619, 4, none⟩ = some (.int .i64 a0_4) := (blk_cell BK619.out 4).trans rfl
             have hcz21_5 : w5.cell? ⟨gb619, 5, none⟩ = some (.int .i64 a0_5) := (blk_cell BK619.out 5).trans rfl
             have hcz21_6 : w5.cell? ⟨gb619, 6, none⟩ = some (.int .i64 a0_6) := (blk_cell BK619.out 6).trans rfl
             have hcz21_7 : w5.cell? ⟨gb619, 7, none⟩ = some (.int .i64 a0_7) := (blk_cell BK619.out 7).trans rfl
             have hcz21_8 : w5.cell? ⟨gb619, 8, none⟩ = some (.int .i64 a0_8) := (blk_cell BK619.out 8).trans rfl
             have hcz21_9 : w5.cell? ⟨gb619, 9, none⟩ = some (.int .i64 a0_9) := (blk_cell BK619.out 9).trans rfl
             have hcz21_10 : w5.cell? ⟨gb619, 10, none⟩ = some (.int .i64 a0_10) := (blk_cell BK619.out 10).trans rfl
             have hcz21_11 : w5.cell? ⟨gb619, 11, none⟩ = some (.slice A0_11 l0_11.length c0_11) := (blk_cell BK619.out 11).trans rfl
             have hfz21_0 := blk_frozen BK619.out 0
             have hfz21_1 := blk_frozen BK619.out 1
             have hfz21_2 := blk_frozen BK619.out 2
             have hfz21_3 := blk_frozen BK619.out 3
             have hfz21_4 := blk_frozen BK619.out 4
             have hfz21_5 := blk_frozen BK619.out 5
             have hfz21_6 := blk_frozen BK619.out 6
             have hfz21_7 := blk_frozen BK619.out 7
             have hfz21_8 := blk_frozen BK619.out 8
             have hfz21_9 := blk_frozen BK619.out 9
             have hfz21_10 := blk_frozen BK619.out 10
             have hfz21_11 := blk_frozen BK619.out 11
             have hcz22_0 : w5.cell? ⟨gb620, 0, none⟩ = some (.int .i64 a1_0) := (blk_cell BK620.out 0).trans rfl
             have hcz22_1 : w5.cell? ⟨gb620, 1, none⟩ = some (.int .i64 a1_1) := (blk_cell BK620.out 1).trans rfl
             have hcz22_2 : w5.cell? ⟨gb620, 2, none⟩ = some (.int .i64 a1_2) := (blk_cell BK620.out 2).trans rfl
             have hcz22_3 : w5.cell? ⟨gb620, 3, none⟩ = some (.int .i64 a1_3) := (blk_cell BK620.out 3).trans rfl
             have hcz22_4 : w5.cell? ⟨gb620, 4, none⟩ = some (.int .i64 a1_4) := (blk_cell BK620.out 4).trans rfl
             have hcz22_5 : w5.cell? ⟨gb620, 5, none⟩ = some (.int .i64 a1_5) := (blk_cell BK620.out 5).trans rfl
             have hcz22_6 : w5.cell? ⟨gb620, 6, none⟩ = some (.int .i64 a1_6) := (blk_cell BK620.out 6).trans rfl
             have hcz22_7 : w5.cell? ⟨gb620, 7, none⟩ = some (.int .i64 a1_7) := (blk_cell BK620.out 7).trans rfl
             have hcz22_8 : w5.cell? ⟨gb620, 8, none⟩ = some (.int .i64 a1_8) := (blk_cell BK620.out 8).trans rfl
             have hcz22_9 : w5.cell? ⟨gb620, 9, none⟩ = some (.int .i64 a1_9) := (blk_cell BK620.out 9).trans rfl
             have hcz22_10 : w5.cell? ⟨gb620, 10, none⟩ = some (.int .i64 a1_10) := (blk_cell BK620.out 10).trans rfl
             have hcz22_11 : w5.cell? ⟨gb620, 11, none⟩ = some (.slice A1_11 l1_11.length c1_11) := (blk_cell BK620.out 11).trans rfl
             have hfz22_0 := blk_frozen BK620.out 0
             have hfz22_1 := blk_frozen BK620.out 1
             have hfz22_2 := blk_frozen BK620.out 2
             have hfz22_3 := blk_frozen BK620.out 3
             have hfz22_4 := blk_frozen BK620.out 4
             have hfz22_5 := blk_frozen BK620.out 5
             have hfz22_6 := blk_frozen BK620.out 6
             have hfz22_7 := blk_frozen BK620.out 7
             have hfz22_8 := blk_frozen BK620.out 8
             have hfz22_9 := blk_frozen BK620.out 9
             have hfz22_10 := blk_frozen BK620.out 10
             have hfz22_11 := blk_frozen BK620.out 11
             go_wp2
             repeat (go_quiet (fail); try go_wp2)
             go_meet
             case rel => exact ⟨_, (true), ez, H', ⟨by first | omega | exact Nat.le_refl _⟩, ⟨mBK BK619.out⟩, ⟨mBK BK620.out⟩, ⟨mBs HB.out⟩⟩
           ·rw [if_neg c15] at H
            have c15b0 : (a0_9 == a1_9) = false := beq_eq_false_iff_ne.mpr c15
            have c15b1 : (a0_9 != a1_9) = true := bne_iff_ne.mpr c15
            have H' := Aside0.mk H
            clear H
            have hnb23 := NB619_620.out
            have hnc23 := NB620_619.out
            have hcz24_0 : w5.cell? ⟨gb619, 0, none⟩ = some (.int .i64 a0_0) := (blk_cell BK619.out 0).trans rfl
            have hcz24_1 : w5.cell? ⟨gb619, 1, none⟩ = some (.int .i64 a0_1) := (blk_cell BK619.out 1).trans rfl
            have hcz24_2 : w5.cell? ⟨gb619, 2, none⟩ = some (.int .i64 a0_2) := (blk_cell BK619.out 2).trans rfl
            have hcz24_3 : w5.cell? ⟨gb619, 3, none⟩ = some (.int .i64 a0_3) := (blk_cell BK619.out 3).trans rfl
            have hcz24_4 : w5.cell? ⟨gb619, 4, none⟩ = some (.int .i64 a0_4) := (blk_cell BK619.out 4).trans rfl
            have hcz24_5 : w5.cell? ⟨gb619, 5, none⟩ = some (.int .i64 a0_5) := (blk_cell BK619.out 5).trans rfl
            have hcz24_6 : w5.cell? ⟨gb619, 6, none⟩ = some (.int .i64 a0_6) := (blk_cell BK619.out 6).trans rfl
            have hcz24_7 : w5.cell? ⟨gb619, 7, none⟩ = some (.int .i64 a0_7) := (blk_cell BK619.out 7).trans rfl
            have hcz24_8 : w5.cell? ⟨gb619, 8, none⟩ = some (.int .i64 a0_8) := (blk_cell BK619.out 8).trans rfl
            have hcz24_9 : w5.cell? ⟨gb619, 9, none⟩ = some (.int .i64 a0_9) := (blk_cell BK619.out 9).trans rfl
            have hcz24_10 : w5.cell? ⟨gb619, 10, none⟩ = some (.int .i64 a0_10) := (blk_cell BK619.out 10).trans rfl
            have hcz24_11 : w5.cell? ⟨gb619, 11, none⟩ = some (.slice A0_11 l0_11.length c0_11) := (blk_cell BK619.out 11).trans rfl
            have hfz24_0 := blk_frozen BK619.out 0
            have hfz24_1 := blk_frozen BK619.out 1
            have hfz24_2 := blk_frozen BK619.out 2
            have hfz24_3 := blk_frozen BK619.out 3
            have hfz24_4 := blk_frozen BK619.out 4
            have hfz24_5 := blk_frozen BK619.out 5
            have hfz24_6 := blk_frozen BK619.out 6
            have hfz24_7 := blk_frozen BK619.out 7
            have hfz24_8 := blk_frozen BK619.out 8
            have hfz24_9 := blk_frozen BK619.out 9
            have hfz24_10 := blk_frozen BK619.out 10
            have hfz24_11 := blk_frozen BK619.out 11
            have hcz25_0 : w5.cell? ⟨gb620, 0, none⟩ = some (.int .i64 a1_0) := (blk_cell BK620.out 0).trans rfl
            have hcz25_1 : w5.cell? ⟨gb620, 1, none⟩ = some (.int .i64 a1_1) := (blk_cell BK620.out 1).trans rfl
            have hcz25_2 : w5.cell? ⟨gb620, 2, none⟩ = some (.int .i64 a1_2) := (blk_cell BK620.out 2).trans rfl
            have hcz25_3 : w5.cell? ⟨gb620, 3, none⟩ = some (.int .i64 a1_3) := (blk_cell BK620.out 3).trans rfl
            have hcz25_4 : w5.cell? ⟨gb620, 4, none⟩ = some (.int .i64 a1_4) := (blk_cell BK620.out 4).trans rfl
            have hcz25_5 : w5.cell? ⟨gb620, 5, none⟩ = some (.int .i64 a1_5) := (blk_cell BK620.out 5).trans rfl
            have hcz25_6 : w5.cell? ⟨gb620, 6, none⟩ = some (.int .i64 a1_6) := (blk_cell BK620.out 6).trans rfl
            have hcz25_7 : w5.cell? ⟨gb620, 7, none⟩ = some (.int .i64 a1_7) := (blk_cell BK620.out 7).trans rfl
            have hcz25_8 : w5.cell? ⟨gb620, 8, none⟩ = some (.int .i64 a1_8) := (blk_cell BK620.out 8).trans rfl
            have hcz25_9 : w5.cell? ⟨gb620, 9, none⟩ = some (.int .i64 a1_9) := (blk_cell BK620.out 9).trans rfl
            have hcz25_10 : w5.cell? ⟨gb620, 10, none⟩ = some (.int .i64 a1_10) := (blk_cell BK620.out 10).trans rfl
            have hcz25_11 : w5.cell? ⟨gb620, 11, none⟩ = some (.slice A1_11 l1_11.length c1_11) := (blk_cell BK620.out 11).trans rfl
            have hfz25_0 := blk_frozen BK620.out 0
            have hfz25_1 := blk_frozen BK620.out 1
            have hfz25_2 := blk_frozen BK620.out 2
            have hfz25_3 := blk_frozen BK620.out 3
            have hfz25_4 := blk_frozen BK620.out 4
            have hfz25_5 := blk_frozen BK620.out 5
            have hfz25_6 := blk_frozen BK620.out 6
            have hfz25_7 := blk_frozen BK620.out 7
            have hfz25_8 := blk_frozen BK620.out 8
            have hfz25_9 := blk_frozen BK620.out 9
            have hfz25_10 := blk_frozen BK620.out 10
            have hfz25_11 := blk_frozen BK620.out 11
            go_wp2
            repeat (go_quiet (fail); try go_wp2)
            go_meet
            case rel => exact ⟨_, (true), ez, H', ⟨by first | omega | exact Nat.le_refl _⟩, ⟨mBK BK619.out⟩, ⟨mBK BK620.out⟩, ⟨mBs HB.out⟩⟩
          ·rw [if_neg c14] at H
           have c14b0 : (a0_8 == a1_8) = false := beq_eq_false_iff_ne.mpr c14
           have c14b1 : (a0_8 != a1_8) = true := bne_iff_ne.mpr c14
           have H' := Aside0.mk H
           clear H
           have hnb26 := NB619_620.out
           have hnc26 := NB620_619.out
           have hcz27_0 : w5.cell? ⟨gb619, 0, none⟩ = some (.int .i64 a0_0) := (blk_cell BK619.out 0).trans rfl
           have hcz27_1 : w5.cell? ⟨gb619, 1, none⟩ = some (.int .i64 a0_1) := (blk_cell BK619.out 1).trans rfl
           have hcz27_2 : w5.cell? ⟨gb619, 2, none⟩ = some (.int .i64 a0_2) := (blk_cell BK619.out 2).trans rfl
           have hcz27_3 : w5.cell? ⟨gb619, 3, none⟩ = some (.int .i64 a0_3) := (blk_cell BK619.out 3).trans rfl
           have hcz27_4 : w5.cell? ⟨gb619, 4, none⟩ = some (.int .i64 a0_4) := (blk_cell BK619.out 4).trans rfl
           have hcz27_5 : w5.cell? ⟨gb619, 5, none⟩ = some (.int .i64 a0_5) := (blk_cell BK619.out 5).trans rfl
           have hcz27_6 : w5.cell? ⟨gb619, 6, none⟩ = some (.int .i64 a0_6) := (blk_cell BK619.out 6).trans rfl
           have hcz27_7 : w5.cell? ⟨gb619, 7, none⟩ = some (.int .i64 a0_7) := (blk_cell BK619.out 7).trans rfl
           have hcz27_8 : w5.cell? ⟨gb619, 8, none⟩ = some (.int .i64 a0_8) := (blk_cell BK619.out 8).trans rfl
           have hcz27_9 : w5.cell? ⟨gb619, 9, none⟩ = some (.int .i64 a0_9) := (blk_cell BK619.out 9).trans rfl
           have hcz27_10 : w5.cell? ⟨gb619, 10, none⟩ = some (.int .i64 a0_10) := (blk_cell BK619.out 10).trans rfl
           have hcz27_11 : w5.cell? ⟨gb619, 11, none⟩ = some (.slice A0_11 l0_11.length c0_11) := (blk_cell BK619.out 11).trans rfl
           have hfz27_0 := blk_frozen BK619.out 0
           have hfz27_1 := blk_frozen BK619.out 1
           have hfz27_2 := blk_frozen BK619.out 2
           have hfz27_3 := blk_frozen BK619.out 3
           have hfz27_4 := blk_frozen BK619.out 4
           have hfz27_5 := blk_frozen BK619.out 5
           have hfz27_6 := blk_frozen BK619.out 6
           have hfz27_7 := blk_frozen BK619.out 7
           have hfz27_8 := blk_frozen BK619.out 8
           have hfz27_9 := blk_frozen BK619.out 9
           have hfz27_10 := blk_frozen BK619.out 10
           have hfz27_11 := blk_frozen BK619.out 11
           have hcz28_0 : w5.cell? ⟨gb620, 0, none⟩ = some (.int .i64 a1_0) := (blk_cell BK620.out 0).trans rfl
           have hcz28_1 : w5.cell? ⟨gb620, 1, none⟩ = some (.int .i64 a1_1) := (blk_cell BK620.out 1).trans rfl
           have hcz28_2 : w5.cell? ⟨gb620, 2, none⟩ = some (.int .i64 a1_2) := (blk_cell BK620.out 2).trans rfl
           have hcz28_3 : w5.cell? ⟨gb620, 3, none⟩ = some (.int .i64 a1_3) := (blk_cell BK620.out 3).trans rfl
           have hcz28_4 : w5.cell? ⟨gb620, 4, none⟩ = some (.int .i64 a1_4) := (blk_cell BK620.out 4).trans rfl
           have hcz28_5 : w5.cell? ⟨gb620, 5, none⟩ = some (.int .i64 a1_5) := (blk_cell BK620.out 5).trans rfl
           have hcz28_6 : w5.cell? ⟨gb620, 6, none⟩ = some (.int .i64 a1_6) := (blk_cell BK620.out 6).trans rfl
           have hcz28_7 : w5.cell? ⟨gb620, 7, none⟩ = some (.int .i64 a1_7) := (blk_cell BK620.out 7).trans rfl
           have hcz28_8 : w5.cell? ⟨gb620, 8, none⟩ = some (.int .i64 a1_8) := (blk_cell BK620.out 8).trans rfl
           have hcz28_9 : w5.cell? ⟨gb620, 9, none⟩ = some (.int .i64 a1_9) := (blk_cell BK620.out 9).trans rfl
           have hcz28_10 : w5.cell? ⟨gb620, 10, none⟩ = some (.int .i64 a1_10) := (blk_cell BK620.out 10).trans rfl
           have hcz28_11 : w5.cell? ⟨gb620, 11, none⟩ = some (.slice A1_11 l1_11.length c1_11) := (blk_cell BK620.out 11).trans rfl
           have hfz28_0 := blk_frozen BK620.out 0
           have hfz28_1 := blk_frozen BK620.out 1
           have hfz28_2 := blk_frozen BK620.out 2
           have hfz28_3 := blk_frozen BK620.out 3
           have hfz28_4 := blk_frozen BK620.out 4
           have hfz28_5 := blk_frozen BK620.out 5
           have hfz28_6 := blk_frozen BK620.out 6
           have hfz28_7 := blk_frozen BK620.out 7
           have hfz28_8 := blk_frozen BK620.out 8
           have hfz28_9 := blk_frozen BK620.out 9
           have hfz28_10 := blk_frozen BK620.out 10
           have hfz28_11 := blk_frozen BK620.out 11
           go_wp2
           repeat (go_quiet (fail); try go_wp2)
           go_meet
           case rel => exact ⟨_, (true), ez, H', ⟨by first | omega | exact Nat.le_refl _⟩, ⟨mBK BK619.out⟩, ⟨mBK BK620.out⟩, ⟨mBs HB.out⟩⟩
         ·rw [if_neg c13] at H
          have c13b0 : (a0_7 == a1_7) = false := beq_eq_false_iff_ne.mpr c13
          have c13b1 : (a0_7 != a1_7) = true := bne_iff_ne.mpr c13
          have H' := Aside0.mk H
          clear H
          have hnb29 := NB619_620.out
          have hnc29 := NB620_619.out
          have hcz30_0 : w5.cell? ⟨gb619, 0, none⟩ = some (.int .i64 a0_0) := (blk_cell BK619.out 0).trans rfl
          have hcz30_1 : w5.cell? ⟨gb619, 1, none⟩ = some (.int .i64 a0_1) := (blk_cell BK619.out 1).trans rfl
          have hcz30_2 : w5.cell? ⟨gb619, 2, none⟩ = some (.int .i64 a0_2) := (blk_cell BK619.out 2).trans rfl
          have hcz30_3 : w5.cell? ⟨gb619, 3, none⟩ = some (.int .i64 a0_3) := (blk_cell BK619.out 3).trans rfl
          have hcz30_4 : w5.cell? ⟨gb619, 4, none⟩ = some (.int .i64 a0_4) := (blk_cell BK619.out 4).trans rfl
          have hcz30_5 : w5.cell? ⟨gb619, 5, none⟩ = some (.int .i64 a0_5) := (blk_cell BK619.out 5).trans rfl
          have hcz30_6 : w5.cell? ⟨gb619, 6, none⟩ = some (.int .i64 a0_6) := (blk_cell BK619.out 6).trans rfl
          have hcz30_7 : w5.cell? ⟨gb619, 7, none⟩ = some (.int .i64 a0_7) := (blk_cell BK619.out 7).trans rfl
          have hcz30_8 : w5.cell? ⟨gb619, 8, none⟩ = some (.int .i64 a0_8) := (blk_cell BK619.out 8).trans rfl
          have hcz30_9 : w5.cell? ⟨gb619, 9, none⟩ = some (.int .i64 a0_9) := (blk_cell BK619.out 9).trans rfl
          have hcz30_10 : w5.cell? ⟨gb619, 10, none⟩ = some (.int .i64 a0_10) := (blk_cell BK619.out 10).trans rfl
          have hcz30_11 : w5.cell? ⟨gb619, 11, none⟩ = some (.slice A0_11 l0_11.length c0_11) := (blk_cell BK619.out 11).trans rfl
          have hfz30_0 := blk_frozen BK619.out 0
          have hfz30_1 := blk_frozen BK619.out 1
          have hfz30_2 := blk_frozen BK619.out 2
          have hfz30_3 := blk_frozen BK619.out 3
          have hfz30_4 := blk_frozen BK619.out 4
          have hfz30_5 := blk_frozen BK619.out 5
          have hfz30_6 := blk_frozen BK619.out 6
          have hfz30_7 := blk_frozen BK619.out 7
          have hfz30_8 := blk_frozen BK619.out 8
          have hfz30_9 := blk_frozen BK619.out 9
          have hfz30_10 := blk_frozen BK619.out 10
          have hfz30_11 := blk_frozen BK619.out 11
          have hcz31_0 : w5.cell? ⟨gb620, 0, none⟩ = some (.int .i64 a1_0) := (blk_cell BK620.out 0).trans rfl
          have hcz31_1 : w5.cell? ⟨gb620, 1, none⟩ = some (.int .i64 a1_1) := (blk_cell BK620.out 1).trans rfl
          have hcz31_2 : w5.cell? ⟨gb620, 2, none⟩ = some (.int .i64 a1_2) := (blk_cell BK620.out 2).trans rfl
          have hcz31_3 : w5.cell? ⟨gb620, 3, none⟩ = some (.int .i64 a1_3) := (blk_cell BK620.out 3).trans rfl
          have hcz31_4 : w5.cell? ⟨gb620, 4, none⟩ = some (.int .i64 a1_4) := (blk_cell BK620.out 4).trans rfl
          have hcz31_5 : w5.cell? ⟨gb620, 5, none⟩ = some (.int .i64 a1_5) := (blk_cell BK620.out 5).trans rfl
          have hcz31_6 : w5.cell? ⟨gb620, 6, none⟩ = some (.int .i64 a1_6) := (blk_cell BK620.out 6).trans rfl
          have hcz31_7 : w5.cell? ⟨gb620, 7, none⟩ = some (.int .i64 a1_7) := (blk_cell BK620.out 7).trans rfl
          have hcz31_8 : w5.cell? ⟨gb620, 8, none⟩ = some (.int .i64 a1_8) := (blk_cell BK620.out 8).trans rfl
          have hcz31_9 : w5.cell? ⟨gb620, 9, none⟩ = some (.int .i64 a1_9) := (blk_cell BK620.out 9).trans rfl
          have hcz31_10 : w5.cell? ⟨gb620, 10, none⟩ = some (.int .i64 a1_10) := (blk_cell BK620.out 10).trans rfl
          have hcz31_11 : w5.cell? ⟨gb620, 11, none⟩ = some (.slice A1_11 l1_11.length c1_11) := (blk_cell BK620.out 11).trans rfl
          have hfz31_0 := blk_frozen BK620.out 0
          have hfz31_1 := blk_frozen BK620.out 1
          have hfz31_2 := blk_frozen BK620.out 2
          have hfz31_3 := blk_frozen BK620.out 3
          have hfz31_4 := blk_frozen BK620.out 4
          have hfz31_5 := blk_frozen BK620.out 5
          have hfz31_6 := blk_frozen BK620.out 6
          have hfz31_7 := blk_frozen BK620.out 7
          have hfz31_8 := blk_frozen BK620.out 8
          have hfz31_9 := blk_frozen BK620.out 9
          have hfz31_10 := blk_frozen BK620.out 10
          have hfz31_11 := blk_frozen BK620.out 11
          go_wp2
          repeat (go_quiet (fail); try go_wp2)
          go_meet
          case rel => exact ⟨_, (true), ez, H', ⟨by first | omega | exact Nat.le_refl _⟩, ⟨mBK BK619.out⟩, ⟨mBK BK620.out⟩, ⟨mBs HB.out⟩⟩
        ·rw [if_neg c12] at H
         have c12b0 : (a0_6 == a1_6) = false := beq_eq_false_iff_ne.mpr c12
         have c12b1 : (a0_6 != a1_6) = true := bne_iff_ne.mpr c12
         have H' := Aside0.mk H
         clear H
         have hnb32 := NB619_620.out
         have hnc32 := NB620_619.out
         have hcz33_0 : w5.cell? ⟨gb619, 0, none⟩ = some (.int .i64 a0_0) := (blk_cell BK619.out 0).trans rfl
         have hcz33_1 : w5.cell? ⟨gb619, 1, none⟩ = some (.int .i64 a0_1) := (blk_cell BK619.out 1).trans rfl
         have hcz33_2 : w5.cell? ⟨gb619, 2, none⟩ = some (.int .i64 a0_2) := (blk_cell BK619.out 2).trans rfl
         have hcz33_3 : w5.cell? ⟨gb619, 3, none⟩ = some (.int .i64 a0_3) := (blk_cell BK619.out 3).trans rfl
         have hcz33_4 : w5.cell? ⟨gb619, 4, none⟩ = some (.int .i64 a0_4) := (blk_cell BK619.out 4).trans rfl
         have hcz33_5 : w5.cell? ⟨gb619, 5, none⟩ = some (.int .i64 a0_5) := (blk_cell BK619.out 5).trans rfl
         have hcz33_6 : w5.cell? ⟨gb619, 6, none⟩ = some (.int .i64 a0_6) := (blk_cell BK619.out 6).trans rfl
         have hcz33_7 : w5.cell? ⟨gb619, 7, none⟩ = some (.int .i64 a0_7) := (blk_cell BK619.out 7).trans rfl
         have hcz33_8 : w5.cell? ⟨gb619, 8, none⟩ = some (.int .i64 a0_8) := (blk_cell BK619.out 8).trans rfl
         have hcz33_9 : w5.cell? ⟨gb619, 9, none⟩ = some (.int .i64 a0_9) := (blk_cell BK619.out 9).trans rfl
         have hcz33_10 : w5.cell? ⟨gb619, 10, none⟩ = some (.int .i64 a0_10) := (blk_cell BK619.out 10).trans rfl
         have hcz33_11 : w5.cell? ⟨gb619, 11, none⟩ = some (.slice A0_11 l0_11.length c0_11) := (blk_cell BK619.out 11).trans rfl
         have hfz33_0 := blk_frozen BK619.out 0
         have hfz33_1 := blk_frozen BK619.out 1
         have hfz33_2 := blk_frozen BK619.out 2
         have hfz33_3 := blk_frozen BK619.out 3
         have hfz33_4 := blk_frozen BK619.out 4
         have hfz33_5 := blk_frozen BK619.out 5
         have hfz33_6 := blk_frozen BK619.out 6
         have hfz33_7 := blk_frozen BK619.out 7
         have hfz33_8 := blk_frozen BK619.out 8
         have hfz33_9 := blk_frozen BK619.out 9
         have hfz33_10 := blk_frozen BK619.out 10
         have hfz33_11 := blk_frozen BK619.out 11
         have hcz34_0 : w5.cell? ⟨gb620, 0, none⟩ = some (.int .i64 a1_0) := (blk_cell BK620.out 0).trans rfl
         have hcz34_1 : w5.cell? ⟨gb620, 1, none⟩ = some (.int .i64 a1_1) := (blk_cell BK620.out 1).trans rfl
         have hcz34_2 : w5.cell? ⟨gb620, 2, none⟩ = some (.int .i64 a1_2) := (blk_cell BK620.out 2).trans rfl
         have hcz34_3 : w5.cell? ⟨gb620, 3, none⟩ = some (.int .i64 a1_3) := (blk_cell BK620.out 3).trans rfl
         have hcz34_4 : w5.cell? ⟨gb620, 4, none⟩ = some (.int .i64 a1_4) := (blk_cell BK620.out 4).trans rfl
         have hcz34_5 : w5.cell? ⟨gb620, 5, none⟩ = some (.int .i64 a1_5) := (blk_cell BK620.out 5).trans rfl
         have hcz34_6 : w5.cell? ⟨gb620, 6, none⟩ = some (.int .i64 a1_6) := (blk_cell BK620.out 6).trans rfl
         have hcz34_7 : w5.cell? ⟨gb620, 7, none⟩ = some (.int .i64 a1_7) := (blk_cell BK620.out 7).trans rfl
         have hcz34_8 : w5.cell? ⟨gb620, 8, none⟩ = some (.int .i64 a1_8) := (blk_cell BK620.out 8).trans rfl
         have hcz34_9 : w5.cell? ⟨gb620, 9, none⟩ = some (.int .i64 a1_9) := (blk_cell BK620.out 9).trans rfl
         have hcz34_10 : w5.cell? ⟨gb620, 10, none⟩ = some (.int .i64 a1_10) := (blk_cell BK620.out 10).trans rfl
         have hcz34_11 : w5.cell? ⟨gb620, 11, none⟩ = some (.slice A1_11 l1_11.length c1_11) := (blk_cell BK620.out 11).trans rfl
         have hfz34_0 := blk_frozen BK620.out 0
         have hfz34_1 := blk_frozen BK620.out 1
         have hfz34_2 := blk_frozen BK620.out 2
         have hfz34_3 := blk_frozen BK620.out 3
         have hfz34_4 := blk_frozen BK620.out 4
         have hfz34_5 := blk_frozen BK620.out 5
         have hfz34_6 := blk_frozen BK620.out 6
         have hfz34_7 := blk_frozen BK620.out 7
         have hfz34_8 := blk_frozen BK620.out 8
         have hfz34_9 := blk_frozen BK620.out 9
         have hfz34_10 := blk_frozen BK620.out 10
         have hfz34_11 := blk_frozen BK620.out 11
         go_wp2
         repeat (go_quiet (fail); try go_wp2)
         go_meet
         case rel => exact ⟨_, (true), ez, H', ⟨by first | omega | exact Nat.le_refl _⟩, ⟨mBK BK619.out⟩, ⟨mBK BK620.out⟩, ⟨mBs HB.out⟩⟩
       ·rw [if_neg c11] at H
        have c11b0 : (a0_5 == a1_5) = false := beq_eq_false_iff_ne.mpr c11
        have c11b1 : (a0_5 != a1_5) = true := bne_iff_ne.mpr c11
        have H' := Aside0.mk H
        clear H
        have hnb35 := NB619_620.out
        have hnc35 := NB620_619.out
        have hcz36_0 : w5.cell? ⟨gb619, 0, none⟩ = some (.int .i64 a0_0) := (blk_cell BK619.out 0).trans rfl
        have hcz36_1 : w5.cell? ⟨gb619, 1, none⟩ = some (.int .i64 a0_1) := (blk_cell BK619.out 1).trans rfl
        have hcz36_2 : w5.cell? ⟨gb619, 2, none⟩ = some (.int .i64 a0_2) := (blk_cell BK619.out 2).trans rfl
        have hcz36_3 : w5.cell? ⟨gb619, 3, none⟩ = some (.int .i64 a0_3) := (blk_cell BK619.out 3).trans rfl
        have hcz36_4 : w5.cell? ⟨gb619, 4, none⟩ = some (.int .i64 a0_4) := (blk_cell BK619.out 4).trans rfl
        have hcz36_5 : w5.cell? ⟨gb619, 5, none⟩ = some (.int .i64 a0_5) := (blk_cell BK619.out 5).trans rfl
        have hcz36_6 : w5.cell? ⟨gb619, 6, none⟩ = some (.int .i64 a0_6) := (blk_cell BK619.out 6).trans rfl
        have hcz36_7 : w5.cell? ⟨gb619, 7, none⟩ = some (.int .i64 a0_7) := (blk_cell BK619.out 7).trans rfl
        have hcz36_8 : w5.cell? ⟨gb619, 8, none⟩ = some (.int .i64 a0_8) := (blk_cell BK619.out 8).trans rfl
        have hcz36_9 : w5.cell? ⟨gb619, 9, none⟩ = some (.int .i64 a0_9) := (blk_cell BK619.out 9).trans rfl
        have hcz36_10 : w5.cell? ⟨gb619, 10, none⟩ = some (.int .i64 a0_10) := (blk_cell BK619.out 10).trans rfl
        have hcz36_11 : w5.cell? ⟨gb619, 11, none⟩ = some (.slice A0_11 l0_11.length c0_11) := (blk_cell BK619.out 11).trans rfl
        have hfz36_0 := blk_frozen BK619.out 0
        have hfz36_1 := blk_frozen BK619.out 1
        have hfz36_2 := blk_frozen BK619.out 2
        have hfz36_3 := blk_frozen BK619.out 3
        have hfz36_4 := blk_frozen BK619.out 4
        have hfz36_5 := blk_frozen BK619.out 5
        have hfz36_6 := blk_frozen BK619.out 6
        have hfz36_7 := blk_frozen BK619.out 7
        have hfz36_8 := blk_frozen BK619.out 8
        have hfz36_9 := blk_frozen BK619.out 9
        have hfz36_10 := blk_frozen BK619.out 10
        have hfz36_11 := blk_frozen BK619.out 11
        have hcz37_0 : w5.cell? ⟨gb620, 0, none⟩ = some (.int .i64 a1_0) := (blk_cell BK620.out 0).trans rfl
        have hcz37_1 : w5.cell? ⟨gb620, 1, none⟩ = some (.int .i64 a1_1) := (blk_cell BK620.out 1).trans rfl
        have hcz37_2 : w5.cell? ⟨gb620, 2, none⟩ = some (.int .i64 a1_2) := (blk_cell BK620.out 2).trans rfl
        have hcz37_3 : w5.cell? ⟨gb620, 3, none⟩ = some (.int .i64 a1_3) := (blk_cell BK620.out 3).trans rfl
        have hcz37_4 : w5.cell? ⟨gb620, 4, none⟩ = some (.int .i64 a1_4) := (blk_cell BK620.out 4).trans rfl
        have hcz37_5 : w5.cell? ⟨gb620, 5, none⟩ = some (.int .i64 a1_5) := (blk_cell BK620.out 5).trans rfl
        have hcz37_6 : w5.cell? ⟨gb620, 6, none⟩ = some (.int .i64 a1_6) := (blk_cell BK620.out 6).trans rfl
        have hcz37_7 : w5.cell? ⟨gb620, 7, none⟩ = some (.int .i64 a1_7) := (blk_cell BK620.out 7).trans rfl
        have hcz37_8 : w5.cell? ⟨gb620, 8, none⟩ = some (.int .i64 a1_8) := (blk_cell BK620.out 8).trans rfl
        have hcz37_9 : w5.cell? ⟨gb620, 9, none⟩ = some (.int .i64 a1_9) := (blk_cell BK620.out 9).trans rfl
        have hcz37_10 : w5.cell? ⟨gb620, 10, none⟩ = some (.int .i64 a1_10) := (blk_cell BK620.out 10).trans rfl
        have hcz37_11 : w5.cell? ⟨gb620, 11, none⟩ = some (.slice A1_11 l1_11.length c1_11) := (blk_cell BK620.out 11).trans rfl
        have hfz37_0 := blk_frozen BK620.out 0
        have hfz37_1 := blk_frozen BK620.out 1
        have hfz37_2 := blk_frozen BK620.out 2
        have hfz37_3 := blk_frozen BK620.out 3
        have hfz37_4 := blk_frozen BK620.out 4
        have hfz37_5 := blk_frozen BK620.out 5
        have hfz37_6 := blk_frozen BK620.out 6
        have hfz37_7 := blk_frozen BK620.out 7
        have hfz37_8 := blk_frozen BK620.out 8
        have hfz37_9 := blk_frozen BK620.out 9
        have hfz37_10 := blk_frozen BK620.out 10
        have hfz37_11 := blk_frozen BK620.out 11
        go_wp2
        repeat (go_quiet (fail); try go_wp2)
        go_meet
        case rel => exact ⟨_, (true), ez, H', ⟨by first | omega | exact Nat.le_refl _⟩, ⟨mBK BK619.out⟩, ⟨mBK BK620.out⟩, ⟨mBs HB.out⟩⟩
      ·rw [if_neg c10] at H
       have c10b0 : (a0_4 == a1_4) = false := beq_eq_false_iff_ne.mpr c10
       have c10b1 : (a0_4 != a1_4) = true := bne_iff_ne.mpr c10
       have H' := Aside0.mk H
       clear H
       have hnb38 := NB619_620.out
       have hnc38 := NB620_619.out
       have hcz39_0 : w5.cell? ⟨gb619, 0, none⟩ = some (.int .i64 a0_0) := (blk_cell BK619.out 0).trans rfl
       have hcz39_1 : w5.cell? ⟨gb619, 1, none⟩ = some (.int .i64 a0_1) := (blk_cell BK619.out 1).trans rfl
       have hcz39_2 : w5.cell? ⟨gb619, 2, none⟩ = some (.int .i64 a0_2) := (blk_cell BK619.out 2).trans rfl
       have hcz39_3 : w5.cell? ⟨gb619, 3, none⟩ = some (.int .i64 a0_3) := (blk_cell BK619.out 3).trans rfl
       have hcz39_4 : w5.cell? ⟨gb619, 4, none⟩ = some (.int .i64 a0_4) := (blk_cell BK619.out 4).trans rfl
       have hcz39_5 : w5.cell? ⟨gb619, 5, none⟩ = some (.int .i64 a0_5) := (blk_cell BK619.out 5).trans rfl
       have hcz39_6 : w5.cell? ⟨gb619, 6, none⟩ = some (.int .i64 a0_6) := (blk_cell BK619.out 6).trans rfl
       have hcz39_7 : w5.cell? ⟨gb619, 7, none⟩ = some (.int .i64 a0_7) := (blk_cell BK619.out 7).trans rfl
       have hcz39_8 : w5.cell? ⟨gb619, 8, none⟩ = some (.int .i64 a0_8) := (blk_cell BK619.out 8).trans rfl
       have hcz39_9 : w5.cell? ⟨gb619, 9, none⟩ = some (.int .i64 a0_9) := (blk_cell BK619.out 9).trans rfl
       have hcz39_10 : w5.cell? ⟨gb619, 10, none⟩ = some (.int .i64 a0_10) := (blk_cell BK619.out 10).trans rfl
       have hcz39_11 : w5.cell? ⟨gb619, 11, none⟩ = some (.slice A0_11 l0_11.length c0_11) := (blk_cell BK619.out 11).trans rfl
       have hfz39_0 := blk_frozen BK619.out 0
       have hfz39_1 := blk_frozen BK619.out 1
       have hfz39_2 := blk_frozen BK619.out 2
       have hfz39_3 := blk_frozen BK619.out 3
       have hfz39_4 := blk_frozen BK619.out 4
       have hfz39_5 := blk_frozen BK619.out 5
       have hfz39_6 := blk_frozen BK619.out 6
       have hfz39_7 := blk_frozen BK619.out 7
       have hfz39_8 := blk_frozen BK619.out 8
       have hfz39_9 := blk_frozen BK619.out 9
       have hfz39_10 := blk_frozen BK619.out 10
       have hfz39_11 := blk_frozen BK619.out 11
       have hcz40_0 : w5.cell? ⟨gb620, 0, none⟩ = some (.int .i64 a1_0) := (blk_cell BK620.out 0).trans rfl
       have hcz40_1 : w5.cell? ⟨gb620, 1, none⟩ = some (.int .i64 a1_1) := (blk_cell BK620.out 1).trans rfl
       have hcz40_2 : w5.cell? ⟨gb620, 2, none⟩ = some (.int .i64 a1_2) := (blk_cell BK620.out 2).trans rfl
       have hcz40_3 : w5.cell? ⟨gb620, 3, none⟩ = some (.int .i64 a1_3) := (blk_cell BK620.out 3).trans rfl
       have hcz40_4 : w5.cell? ⟨gb620, 4, none⟩ = some (.int .i64 a1_4) := (blk_cell BK620.out 4).trans rfl
       have hcz40_5 : w5.cell? ⟨gb620, 5, none⟩ = some (.int .i64 a1_5) := (blk_cell BK620.out 5).trans rfl
       have hcz40_6 : w5.cell? ⟨gb620, 6, none⟩ = some (.int .i64 a1_6) := (blk_cell BK620.out 6).trans rfl
       have hcz40_7 : w5.cell? ⟨gb620, 7, none⟩ = some (.int .i64 a1_7) := (blk_cell BK620.out 7).trans rfl
       have hcz40_8 : w5.cell? ⟨gb620, 8, none⟩ = some (.int .i64 a1_8) := (blk_cell BK620.out 8).trans rfl
       have hcz40_9 : w5.cell? ⟨gb620, 9, none⟩ = some (.int .i64 a1_9) := (blk_cell BK620.out 9).trans rfl
       have hcz40_10 : w5.cell? ⟨gb620, 10, none⟩ = some (.int .i64 a1_10) := (blk_cell BK620.out 10).trans rfl
       have hcz40_11 : w5.cell? ⟨gb620, 11, none⟩ = some (.slice A1_11 l1_11.length c1_11) := (blk_cell BK620.out 11).trans rfl
       have hfz40_0 := blk_frozen BK620.out 0
       have hfz40_1 := blk_frozen BK620.out 1
       have hfz40_2 := blk_frozen BK620.out 2
       have hfz40_3 := blk_frozen BK620.out 3
       have hfz40_4 := blk_frozen BK620.out 4
       have hfz40_5 := blk_frozen BK620.out 5
       have hfz40_6 := blk_frozen BK620.out 6
       have hfz40_7 := blk_frozen BK620.out 7
       have hfz40_8 := blk_frozen BK620.out 8
       have hfz40_9 := blk_frozen BK620.out 9
       have hfz40_10 := blk_frozen BK620.out 10
       have hfz40_11 := blk_frozen BK620.out 11
       go_wp2
       repeat (go_quiet (fail); try go_wp2)
       go_meet
       case rel => exact ⟨_, (true), ez, H', ⟨by first | omega | exact Nat.le_refl _⟩, ⟨mBK BK619.out⟩, ⟨mBK BK620.out⟩, ⟨mBs HB.out⟩⟩
     ·rw [if_neg c9] at H
      have c9b0 : (a0_3 == a1_3) = false := beq_eq_false_iff_ne.mpr c9
      have c9b1 : (a0_3 != a1_3) = true := bne_iff_ne.mpr c9
      have H' := Aside0.mk H
      clear H
      have hnb41 := NB619_620.out
      have hnc41 := NB620_619.out
      have hcz42_0 : w5.cell? ⟨gb619, 0, none⟩ = some (.int .i64 a0_0) := (blk_cell BK619.out 0).trans rfl
      have hcz42_1 : w5.cell? ⟨gb619, 1, none⟩ = some (.int .i64 a0_1) := (blk_cell BK619.out 1).trans rfl
      have hcz42_2 : w5.cell? ⟨gb619, 2, none⟩ = some (.int .i64 a0_2) := (blk_cell BK619.out 2).trans rfl
      have hcz42_3 : w5.cell? ⟨gb619, 3, none⟩ = some (.int .i64 a0_3) := (blk_cell BK619.out 3).trans rfl
      have hcz42_4 : w5.cell? ⟨gb619, 4, none⟩ = some (.int .i64 a0_4) := (blk_cell BK619.out 4).trans rfl
      have hcz42_5 : w5.cell? ⟨gb619, 5, none⟩ = some (.int .i64 a0_5) := (blk_cell BK619.out 5).trans rfl
      have hcz42_6 : w5.cell? ⟨gb619, 6, none⟩ = some (.int .i64 a0_6) := (blk_cell BK619.out 6).trans rfl
      have hcz42_7 : w5.cell? ⟨gb619, 7, none⟩ = some (.int .i64 a0_7) := (blk_cell BK619.out 7).trans rfl
      have hcz42_8 : w5.cell? ⟨gb619, 8, none⟩ = some (.int .i64 a0_8) := (blk_cell BK619.out 8).trans rfl
      have hcz42_9 : w5.cell? ⟨gb619, 9, none⟩ = some (.int .i64 a0_9) := (blk_cell BK619.out 9).trans rfl
      have hcz42_10 : w5.cell? ⟨gb619, 10, none⟩ = some (.int .i64 a0_10) := (blk_cell BK619.out 10).trans rfl
      have hcz42_11 : w5.cell? ⟨gb619, 11, none⟩ = some (.slice A0_11 l0_11.length c0_11) := (blk_cell BK619.out 11).trans rfl
      have hfz42_0 := blk_frozen BK619.out 0
      have hfz42_1 := blk_frozen BK619.out 1
      have hfz42_2 := blk_frozen BK619.out 2
      have hfz42_3 := blk_frozen BK619.out 3
      have hfz42_4 := blk_frozen BK619.out 4
      have hfz42_5 := blk_frozen BK619.out 5
      have hfz42_6 := blk_frozen BK619.out 6
      have hfz42_7 := blk_frozen BK619.out 7
      have hfz42_8 := blk_frozen BK619.out 8
      have hfz42_9 := blk_frozen BK619.out 9
      have hfz42_10 := blk_frozen BK619.out 10
      have hfz42_11 := blk_frozen BK619.out 11
      have hcz43_0 : w5.cell? ⟨gb620, 0, none⟩ = some (.int .i64 a1_0) := (blk_cell BK620.out 0).trans rfl
      have hcz43_1 : w5.cell? ⟨gb620, 1, none⟩ = some (.int .i64 a1_1) := (blk_cell BK620.out 1).trans rfl
      have hcz43_2 : w5.cell? ⟨gb620, 2, none⟩ = some (.int .i64 a1_2) := (blk_cell BK620.out 2).trans rfl
      have hcz43_3 : w5.cell? ⟨gb620, 3, none⟩ = some (.int .i64 a1_3) := (blk_cell BK620.out 3).trans rfl
      have hcz43_4 : w5.cell? ⟨gb620, 4, none⟩ = some (.int .i64 a1_4) := (blk_cell BK620.out 4).trans rfl
      have hcz43_5 : w5.cell? ⟨gb620, 5, none⟩ = some (.int .i64 a1_5) := (blk_cell BK620.out 5).trans rfl
      have hcz43_6 : w5.cell? ⟨gb620, 6, none⟩ = some (.int .i64 a1_6) := (blk_cell BK620.out 6).trans rfl
      have hcz43_7 : w5.cell? ⟨gb620, 7, none⟩ = some (.int .i64 a1_7) := (blk_cell BK620.out 7).trans rfl
      have hcz43_8 : w5.cell? ⟨gb620, 8, none⟩ = some (.int .i64 a1_8) := (blk_cell BK620.out 8).trans rfl
      have hcz43_9 : w5.cell? ⟨gb620, 9, none⟩ = some (.int .i64 a1_9) := (blk_cell BK620.out 9).trans rfl
      have hcz43_10 : w5.cell? ⟨gb620, 10, none⟩ = some (.int .i64 a1_10) := (blk_cell BK620.out 10).trans rfl
      have hcz43_11 : w5.cell? ⟨gb620, 11, none⟩ = some (.slice A1_11 l1_11.length c1_11) := (blk_cell BK620.out 11).trans rfl
      have hfz43_0 := blk_frozen BK620.out 0
      have hfz43_1 := blk_frozen BK620.out 1
      have hfz43_2 := blk_frozen BK620.out 2
      have hfz43_3 := blk_frozen BK620.out 3
      have hfz43_4 := blk_frozen BK620.out 4
      have hfz43_5 := blk_frozen BK620.out 5
      have hfz43_6 := blk_frozen BK620.out 6
      have hfz43_7 := blk_frozen BK620.out 7
      have hfz43_8 := blk_frozen BK620.out 8
      have hfz43_9 := blk_frozen BK620.out 9
      have hfz43_10 := blk_frozen BK620.out 10
      have hfz43_11 := blk_frozen BK620.out 11
      go_wp2
      repeat (go_quiet (fail); try go_wp2)
      go_meet
      case rel => exact ⟨_, (true), ez, H', ⟨by first | omega | exact Nat.le_refl _⟩, ⟨mBK BK619.out⟩, ⟨mBK BK620.out⟩, ⟨mBs HB.out⟩⟩
    ·rw [if_neg c8] at H
     have c8b0 : (a0_2 == a1_2) = false := beq_eq_false_iff_ne.mpr c8
     have c8b1 : (a0_2 != a1_2) = true := bne_iff_ne.mpr c8
     have H' := Aside0.mk H
     clear H
     have hnb44 := NB619_620.out
     have hnc44 := NB620_619.out
     have hcz45_0 : w5.cell? ⟨gb619, 0, none⟩ = some (.int .i64 a0_0) := (blk_cell BK619.out 0).trans rfl
     have hcz45_1 : w5.cell? ⟨gb619, 1, none⟩ = some (.int .i64 a0_1) := (blk_cell BK619.out 1).trans rfl
     have hcz45_2 : w5.cell? ⟨gb619, 2, none⟩ = some (.int .i64 a0_2) := (blk_cell BK619.out 2).trans rfl
     have hcz45_3 : w5.cell? ⟨gb619, 3, none⟩ = some (.int .i64 a0_3) := (blk_cell BK619.out 3).trans rfl
     have hcz45_4 : w5.cell? ⟨gb619, 4, none⟩ = some (.int .i64 a0_4) := (blk_cell BK619.out 4).trans rfl
     have hcz45_5 : w5.cell? ⟨gb619, 5, none⟩ = some (.int .i64 a0_5) := (blk_cell BK619.out 5).trans rfl
     have hcz45_6 : w5.cell? ⟨gb619, 6, none⟩ = some (.int .i64 a0_6) := (blk_cell BK619.out 6).trans rfl
     have hcz45_7 : w5.cell? ⟨gb619, 7, none⟩ = some (.int .i64 a0_7) := (blk_cell BK619.out 7).trans rfl
     have hcz45_8 : w5.cell? ⟨gb619, 8, none⟩ = some (.int .i64 a0_8) := (blk_cell BK619.out 8).trans rfl
     have hcz45_9 : w5.cell? ⟨gb619, 9, none⟩ = some (.int .i64 a0_9) := (blk_cell BK619.out 9).trans rfl
     have hcz45_10 : w5.cell? ⟨gb619, 10, none⟩ = some (.int .i64 a0_10) := (blk_cell BK619.out 10).trans rfl
     have hcz45_11 : w5.cell? ⟨gb619, 11, none⟩ = some (.slice A0_11 l0_11.length c0_11) := (blk_cell BK619.out 11).trans rfl
     have hfz45_0 := blk_frozen BK619.out 0
     have hfz45_1 := blk_frozen BK619.out 1
     have hfz45_2 := blk_frozen BK619.out 2
     have hfz45_3 := blk_frozen BK619.out 3
     have hfz45_4 := blk_frozen BK619.out 4
     have hfz45_5 := blk_frozen BK619.out 5
     have hfz45_6 := blk_frozen BK619.out 6
     have hfz45_7 := blk_frozen BK619.out 7
     have hfz45_8 := blk_frozen BK619.out 8
     have hfz45_9 := blk_frozen BK619.out 9
     have hfz45_10 := blk_frozen BK619.out 10
     have hfz45_11 := blk_frozen BK619.out 11
     have hcz46_0 : w5.cell? ⟨gb620, 0, none⟩ = some (.int .i64 a1_0) := (blk_cell BK620.out 0).trans rfl
     have hcz46_1 : w5.cell? ⟨gb620, 1, none⟩ = some (.int .i64 a1_1) := (blk_cell BK620.out 1).trans rfl
     have hcz46_2 : w5.cell? ⟨gb620, 2, none⟩ = some (.int .i64 a1_2) := (blk_cell BK620.out 2).trans rfl
     have hcz46_3 : w5.cell? ⟨gb620, 3, none⟩ = some (.int .i64 a1_3) := (blk_cell BK620.out 3).trans rfl
     have hcz46_4 : w5.cell? ⟨gb620, 4, none⟩ = some (.int .i64 a1_4) := (blk_cell BK620.out 4).trans rfl
     have hcz46_5 : w5.cell? ⟨gb620, 5, none⟩ = some (.int .i64 a1_5) := (blk_cell BK620.out 5).trans rfl
     have hcz46_6 : w5.cell? ⟨gb620, 6, none⟩ = some (.int .i64 a1_6) := (blk_cell BK620.out 6).trans rfl
     have hcz46_7 : w5.cell? ⟨gb620, 7, none⟩ = some (.int .i64 a1_7) := (blk_cell BK620.out 7).trans rfl
     have hcz46_8 : w5.cell? ⟨gb620, 8, none⟩ = some (.int .i64 a1_8) := (blk_cell BK620.out 8).trans rfl
     have hcz46_9 : w5.cell? ⟨gb620, 9, none⟩ = some (.int .i64 a1_9) := (blk_cell BK620.out 9).trans rfl
     have hcz46_10 : w5.cell? ⟨gb620, 10, none⟩ = some (.int .i64 a1_10) := (blk_cell BK620.out 10).trans rfl
     have hcz46_11 : w5.cell? ⟨gb620, 11, none⟩ = some (.slice A1_11 l1_11.length c1_11) := (blk_cell BK620.out 11).trans rfl
     have hfz46_0 := blk_frozen BK620.out 0
     have hfz46_1 := blk_frozen BK620.out 1
     have hfz46_2 := blk_frozen BK620.out 2
     have hfz46_3 := blk_frozen BK620.out 3
     have hfz46_4 := blk_frozen BK620.out 4
     have hfz46_5 := blk_frozen BK620.out 5
     have hfz46_6 := blk_frozen BK620.out 6
     have hfz46_7 := blk_frozen BK620.out 7
     have hfz46_8 := blk_frozen BK620.out 8
     have hfz46_9 := blk_frozen BK620.out 9
     have hfz46_10 := blk_frozen BK620.out 10
     have hfz46_11 := blk_frozen BK620.out 11
     go_wp2
     repeat (go_quiet (fail); try go_wp2)
     go_meet
     case rel => exact ⟨_, (true), ez, H', ⟨by first | omega | exact Nat.le_refl _⟩, ⟨mBK BK619.out⟩, ⟨mBK BK620.out⟩, ⟨mBs HB.out⟩⟩
   ·rw [if_neg c7] at H
    have c7b0 : (a0_1 == a1_1) = false := beq_eq_false_iff_ne.mpr c7
    have c7b1 : (a0_1 != a1_1) = true := bne_iff_ne.mpr c7
    have H' := Aside0.mk H
    clear H
    have hnb47 := NB619_620.out
    have hnc47 := NB620_619.out
    have hcz48_0 : w5.cell? ⟨gb619, 0, none⟩ = some (.int .i64 a0_0) := (blk_cell BK619.out 0).trans rfl
    have hcz48_1 : w5.cell? ⟨gb619, 1, none⟩ = some (.int .i64 a0_1) := (blk_cell BK619.out 1).trans rfl
    have hcz48_2 : w5.cell? ⟨gb619, 2, none⟩ = some (.int .i64 a0_2) := (blk_cell BK619.out 2).trans rfl
    have hcz48_3 : w5.cell? ⟨gb619, 3, none⟩ = some (.int .i64 a0_3) := (blk_cell BK619.out 3).trans rfl
    have hcz48_4 : w5.cell? ⟨gb619, 4, none⟩ = some (.int .i64 a0_4) := (blk_cell BK619.out 4).trans rfl
    have hcz48_5 : w5.cell? ⟨gb619, 5, none⟩ = some (.int .i64 a0_5) := (blk_cell BK619.out 5).trans rfl
    have hcz48_6 : w5.cell? ⟨gb619, 6, none⟩ = some (.int .i64 a0_6) := (blk_cell BK619.out 6).trans rfl
    have hcz48_7 : w5.cell? ⟨gb619, 7, none⟩ = some (.int .i64 a0_7) := (blk_cell BK619.out 7).trans rfl
    have hcz48_8 : w5.cell? ⟨gb619, 8, none⟩ = some (.int .i64 a0_8) := (blk_cell BK619.out 8).trans rfl
    have hcz48_9 : w5.cell? ⟨gb619, 9, none⟩ = some (.int .i64 a0_9) := (blk_cell BK619.out 9).trans rfl
    have hcz48_10 : w5.cell? ⟨gb619, 10, none⟩ = some (.int .i64 a0_10) := (blk_cell BK619.out 10).trans rfl
    have hcz48_11 : w5.cell? ⟨gb619, 11, none⟩ = some (.slice A0_11 l0_11.length c0_11) := (blk_cell BK619.out 11).trans rfl
    have hfz48_0 := blk_frozen BK619.out 0
    have hfz48_1 := blk_frozen BK619.out 1
    have hfz48_2 := blk_frozen BK619.out 2
    have hfz48_3 := blk_frozen BK619.out 3
    have hfz48_4 := blk_frozen BK619.out 4
    have hfz48_5 := blk_frozen BK619.out 5
    have hfz48_6 := blk_frozen BK619.out 6
    have hfz48_7 := blk_frozen BK619.out 7
    have hfz48_8 := blk_frozen BK619.out 8
    have hfz48_9 := blk_frozen BK619.out 9
    have hfz48_10 := blk_frozen BK619.out 10
    have hfz48_11 := blk_frozen BK619.out 11
    have hcz49_0 : w5.cell? ⟨gb620, 0, none⟩ = some (.int .i64 a1_0) := (blk_cell BK620.out 0).trans rfl
    have hcz49_1 : w5.cell? ⟨gb620, 1, none⟩ = some (.int .i64 a1_1) := (blk_cell BK620.out 1).trans rfl
    have hcz49_2 : w5.cell? ⟨gb620, 2, none⟩ = some (.int .i64 a1_2) := (blk_cell BK620.out 2).trans rfl
    have hcz49_3 : w5.cell? ⟨gb620, 3, none⟩ = some (.int .i64 a1_3) := (blk_cell BK620.out 3).trans rfl
    have hcz49_4 : w5.cell? ⟨gb620, 4, none⟩ = some (.int .i64 a1_4) := (blk_cell BK620.out 4).trans rfl
    have hcz49_5 : w5.cell? ⟨gb620, 5, none⟩ = some (.int .i64 a1_5) := (blk_cell BK620.out 5).trans rfl
    have hcz49_6 : w5.cell? ⟨gb620, 6, none⟩ = some (.int .i64 a1_6) := (blk_cell BK620.out 6).trans rfl
    have hcz49_7 : w5.cell? ⟨gb620, 7, none⟩ = some (.int .i64 a1_7) := (blk_cell BK620.out 7).trans rfl
    have hcz49_8 : w5.cell? ⟨gb620, 8, none⟩ = some (.int .i64 a1_8) := (blk_cell BK620.out 8).trans rfl
    have hcz49_9 : w5.cell? ⟨gb620, 9, none⟩ = some (.int .i64 a1_9) := (blk_cell BK620.out 9).trans rfl
    have hcz49_10 : w5.cell? ⟨gb620, 10, none⟩ = some (.int .i64 a1_10) := (blk_cell BK620.out 10).trans rfl
    have hcz49_11 : w5.cell? ⟨gb620, 11, none⟩ = some (.slice A1_11 l1_11.length c1_11) := (blk_cell BK620.out 11).trans rfl
    have hfz49_0 := blk_frozen BK620.out 0
    have hfz49_1 := blk_frozen BK620.out 1
    have hfz49_2 := blk_frozen BK620.out 2
    have hfz49_3 := blk_frozen BK620.out 3
    have hfz49_4 := blk_frozen BK620.out 4
    have hfz49_5 := blk_frozen BK620.out 5
    have hfz49_6 := blk_frozen BK620.out 6
    have hfz49_7 := blk_frozen BK620.out 7
    have hfz49_8 := blk_frozen BK620.out 8
    have hfz49_9 := blk_frozen BK620.out 9
    have hfz49_10 := blk_frozen BK620.out 10
    have hfz49_11 := blk_frozen BK620.out 11
    go_wp2
    repeat (go_quiet (fail); try go_wp2)
    go_meet
    case rel => exact ⟨_, (true), ez, H', ⟨by first | omega | exact Nat.le_refl _⟩, ⟨mBK BK619.out⟩, ⟨mBK BK620.out⟩, ⟨mBs HB.out⟩⟩
  ·rw [if_neg c6] at H
   have c6b0 : (a0_0 == a1_0) = false := beq_eq_false_iff_ne.mpr c6
   have c6b1 : (a0_0 != a1_0) = true := bne_iff_ne.mpr c6
   (first | rw [c6b0] | (simp only [i64_w, i32_w]; rw [c6b0]) | skip)
   have H' := Aside0.mk H
   clear H
   have hnb50 := NB619_620.out
   have hnc50 := NB620_619.out
   have hcz51_0 : w5.cell? ⟨gb619, 0, none⟩ = some (.int .i64 a0_0) := (blk_cell BK619.out 0).trans rfl
   have hcz51_1 : w5.cell? ⟨gb619, 1, none⟩ = some (.int .i64 a0_1) := (blk_cell BK619.out 1).trans rfl
   have hcz51_2 : w5.cell? ⟨gb619, 2, none⟩ = some (.int .i64 a0_2) := (blk_cell BK619.out 2).trans rfl
   have hcz51_3 : w5.cell? ⟨gb619, 3, none⟩ = some (.int .i64 a0_3) := (blk_cell BK619.out 3).trans rfl
   have hcz51_4 : w5.cell? ⟨gb619, 4, none⟩ = some (.int .i64 a0_4) := (blk_cell BK619.out 4).trans rfl
   have hcz51_5 : w5.cell? ⟨gb619, 5, none⟩ = some (.int .i64 a0_5) := (blk_cell BK619.out 5).trans rfl
   have hcz51_6 : w5.cell? ⟨gb619, 6, none⟩ = some (.int .i64 a0_6) := (blk_cell BK619.out 6).trans rfl
   have hcz51_7 : w5.cell? ⟨gb619, 7, none⟩ = some (.int .i64 a0_7) := (blk_cell BK619.out 7).trans rfl
   have hcz51_8 : w5.cell? ⟨gb619, 8, none⟩ = some (.int .i64 a0_8) := (blk_cell BK619.out 8).trans rfl
   have hcz51_9 : w5.cell? ⟨gb619, 9, none⟩ = some (.int .i64 a0_9) := (blk_cell BK619.out 9).trans rfl
   have hcz51_10 : w5.cell? ⟨gb619, 10, none⟩ = some (.int .i64 a0_10) := (blk_cell BK619.out 10).trans rfl
   have hcz51_11 : w5.cell? ⟨gb619, 11, none⟩ = some (.slice A0_11 l0_11.length c0_11) := (blk_cell BK619.out 11).trans rfl
   have hfz51_0 := blk_frozen BK619.out 0
   have hfz51_1 := blk_frozen BK619.out 1
   have hfz51_2 := blk_frozen BK619.out 2
   have hfz51_3 := blk_frozen BK619.out 3
   have hfz51_4 := blk_frozen BK619.out 4
   have hfz51_5 := blk_frozen BK619.out 5
   have hfz51_6 := blk_frozen BK619.out 6
   have hfz51_7 := blk_frozen BK619.out 7
   have hfz51_8 := blk_frozen BK619.out 8
   have hfz51_9 := blk_frozen BK619.out 9
   have hfz51_10 := blk_frozen BK619.out 10
   have hfz51_11 := blk_frozen BK619.out 11
   have hcz52_0 : w5.cell? ⟨gb620, 0, none⟩ = some (.int .i64 a1_0) := (blk_cell BK620.out 0).trans rfl
   have hcz52_1 : w5.cell? ⟨gb620, 1, none⟩ = some (.int .i64 a1_1) := (blk_cell BK620.out 1).trans rfl
   have hcz52_2 : w5.cell? ⟨gb620, 2, none⟩ = some (.int .i64 a1_2) := (blk_cell BK620.out 2).trans rfl
   have hcz52_3 : w5.cell? ⟨gb620, 3, none⟩ = some (.int .i64 a1_3) := (blk_cell BK620.out 3).trans rfl
   have hcz52_4 : w5.cell? ⟨gb620, 4, none⟩ = some (.int .i64 a1_4) := (blk_cell BK620.out 4).trans rfl
   have hcz52_5 : w5.cell? ⟨gb620, 5, none⟩ = some (.int .i64 a1_5) := (blk_cell BK620.out 5).trans rfl
   have hcz52_6 : w5.cell? ⟨gb620, 6, none⟩ = some (.int .i64 a1_6) := (blk_cell BK620.out 6).trans rfl
   have hcz52_7 : w5.cell? ⟨gb620, 7, none⟩ = some (.int .i64 a1_7) := (blk_cell BK620.out 7).trans rfl
   have hcz52_8 : w5.cell? ⟨gb620, 8, none⟩ = some (.int .i64 a1_8) := (blk_cell BK620.out 8).trans rfl
   have hcz52_9 : w5.cell? ⟨gb620, 9, none⟩ = some (.int .i64 a1_9) := (blk_cell BK620.out 9).trans rfl
   have hcz52_10 : w5.cell? ⟨gb620, 10, none⟩ = some (.int .i64 a1_10) := (blk_cell BK620.out 10).trans rfl
   have hcz52_11 : w5.cell? ⟨gb620, 11, none⟩ = some (.slice A1_11 l1_11.length c1_11) := (blk_cell BK620.out 11).trans rfl
   have hfz52_0 := blk_frozen BK620.out 0
   have hfz52_1 := blk_frozen BK620.out 1
   have hfz52_2 := blk_frozen BK620.out 2
   have hfz52_3 := blk_frozen BK620.out 3
   have hfz52_4 := blk_frozen BK620.out 4
   have hfz52_5 := blk_frozen BK620.out 5
   have hfz52_6 := blk_frozen BK620.out 6
   have hfz52_7 := blk_frozen BK620.out 7
   have hfz52_8 := blk_frozen BK620.out 8
   have hfz52_9 := blk_frozen BK620.out 9
   have hfz52_10 := blk_frozen BK620.out 10
   have hfz52_11 := blk_frozen BK620.out 11
   go_wp2
   repeat (go_quiet (fail); try go_wp2)
   go_meet
   case rel => exact ⟨_, (true), ez, H', ⟨by first | omega | exact Nat.le_refl _⟩, ⟨mBK BK619.out⟩, ⟨mBK BK620.out⟩, ⟨mBs HB.out⟩⟩
 case rest =>
  clear HC3
  (try clear c1); (try clear c2); (try clear p2); (try clear c3); (try clear c4); (try clear c5); (try clear c6); (try clear c6b0); (try clear c6b1); (try clear c7); (try clear c7b0); (try clear c7b1); (try clear c8); (try clear c8b0); (try clear c8b1); (try clear c9); (try clear c9b0); (try clear c9b1); (try clear c10); (try clear c10b0); (try clear c10b1); (try clear c11); (try clear c11b0); (try clear c11b1); (try clear c12); (try clear c12b0); (try clear c12b1); (try clear c13); (try clear c13b0); (try clear c13b1); (try clear c14); (try clear c14b0); (try clear c14b1); (try clear c15); (try clear c15b0); (try clear c15b1); (try clear c23); (try clear c26); (try clear c29); (try clear c32); (try clear c35); (try clear c38); (try clear c41); (try clear c44); (try clear c47); (try clear c50); (try clear hcz24_0); (try clear hcz24_1); (try clear hcz24_10); (try clear hcz24_11); (try clear hcz24_2); (try clear hcz24_3); (try clear hcz24_4); (try clear hcz24_5); (try clear hcz24_6); (try clear hcz24_7); (try clear hcz24_8); (try clear hcz24_9); (try clear hcz25_0); (try clear hcz25_1); (try clear hcz25_10); (try clear hcz25_11); (try clear hcz25_2); (try clear hcz25_3); (try clear hcz25_4); (try clear hcz25_5); (try clear hcz25_6); (try clear hcz25_7); (try clear hcz25_8); (try clear hcz25_9); (try clear hcz27_0); (try clear hcz27_1); (try clear hcz27_10); (try clear hcz27_11); (try clear hcz27_2); (try clear hcz27_3); (try clear hcz27_4); (try clear hcz27_5); (try clear hcz27_6); (try clear hcz27_7); (try clear hcz27_8); (try clear hcz27_9); (try clear hcz28_0); (try clear hcz28_1); (try clear hcz28_10); (try clear hcz28_11); (try clear hcz28_2); (try clear hcz28_3); (try clear hcz28_4); (try clear hcz28_5); (try clear hcz28_6); (try clear hcz28_7); (try clear hcz28_8); (try clear hcz28_9); (try clear hcz30_0); (try clear hcz30_1); (try clear hcz30_10); (try clear hcz30_11); (try clear hcz30_2); (try clear hcz30_3); (try clear hcz30_4); (try clear hcz30_5); (try clear hcz30_6); (try clear hcz30_7); (try clear hcz30_8); (try clear hcz30_9); (try clear hcz31_0); (try clear hcz31_1); (try clear hcz31_10); (try clear hcz31_11); (try clear hcz31_2); (try clear hcz31_3); (try clear hcz31_4); (try clear hcz31_5); (try clear hcz31_6); (try clear hcz31_7); (try clear hcz31_8); (try clear hcz31_9); (try clear hcz33_0); (try clear hcz33_1); (try clear hcz33_10); (try clear hcz33_11); (try clear hcz33_2); (try clear hcz33_3); (try clear hcz33_4); (try clear hcz33_5); (try clear hcz33_6); (try clear hcz33_7); (try clear hcz33_8); (try clear hcz33_9); (try clear hcz34_0); (try clear hcz34_1); (try clear hcz34_10); (try clear hcz34_11); (try clear hcz34_2); (try clear hcz34_3); (try clear hcz34_4); (try clear hcz34_5); (try clear hcz34_6); (try clear hcz34_7); (try clear hcz34_8); (try clear hcz34_9); (try clear hcz36_0); (try clear hcz36_1); (try clear hcz36_10); (try clear hcz36_11); (try clear hcz36_2); (try clear hcz36_3); (try clear hcz36_4); (try clear hcz36_5); (try clear hcz36_6); (try clear hcz36_7); (try clear hcz36_8); (try clear hcz36_9); (try clear hcz37_0); (try clear hcz37_1); (try clear hcz37_10); (try clear hcz37_11); (try clear hcz37_2); (try clear hcz37_3); (try clear hcz37_4); (try clear hcz37_5); (try clear hcz37_6); (try clear hcz37_7); (try clear hcz37_8); (try clear hcz37_9); (try clear hcz39_0); (try clear hcz39_1); (try clear hcz39_10); (try clear hcz39_11); (try clear hcz39_2); (try clear hcz39_3); (try clear hcz39_4); (try clear hcz39_5); (try clear hcz39_6); (try clear hcz39_7); (try clear hcz39_8); (try clear hcz39_9); (try clear hcz40_0); (try clear hcz40_1); (try clear hcz40_10); (try clear hcz40_11); (try clear hcz40_2); (try clear hcz40_3); (try clear hcz40_4); (try clear hcz40_5); (try clear hcz40_6); (try clear hcz40_7); (try clear hcz40_8); (try clear hcz40_9); (try clear hcz42_0); (try clear hcz42_1); (try clear hcz42_10); (try clear hcz42_11); (try clear hcz42_2); (try clear hcz42_3); (try clear hcz42_4); (try clear hcz42_5); (try clear hcz42_6); (try clear hcz42_7); (try clear hcz42_8); (try clear hcz42_9); (try clear hcz43_0); (try clear hcz43_1); (try clear hcz43_10); (try clear hcz43_11); (try clear hcz43_2); (try clear hcz43_3); (try clear hcz43_4); (try clear hcz43_5); (try clear hcz43_6); (try clear hcz43_7); (try clear hcz43_8); (try clear hcz43_9); (try clear hcz45_0); (try clear hcz45_1); (try clear hcz45_10); (try clear hcz45_11); (try clear hcz45_2); (try clear hcz45_3); (try clear hcz45_4); (try clear hcz45_5); (try clear hcz45_6); (try clear hcz45_7); (try clear hcz45_8); (try clear hcz45_9); (try clear hcz46_0); (try clear hcz46_1); (try clear hcz46_10); (try clear hcz46_11); (try clear hcz46_2); (try clear hcz46_3); (try clear hcz46_4); (try clear hcz46_5); (try clear hcz46_6); (try clear hcz46_7); (try clear hcz46_8); (try clear hcz46_9); (try clear hcz48_0); (try clear hcz48_1); (try clear hcz48_10); (try clear hcz48_11); (try clear hcz48_2); (try clear hcz48_3); (try clear hcz48_4); (try clear hcz48_5); (try clear hcz48_6); (try clear hcz48_7); (try clear hcz48_8); (try clear hcz48_9); (try clear hcz49_0); (try clear hcz49_1); (try clear hcz49_10); (try clear hcz49_11); (try clear hcz49_2); (try clear hcz49_3); (try clear hcz49_4); (try clear hcz49_5); (try clear hcz49_6); (try clear hcz49_7); (try clear hcz49_8); (try clear hcz49_9); (try clear hcz51_0); (try clear hcz51_1); (try clear hcz51_10); (try clear hcz51_11); (try clear hcz51_2); (try clear hcz51_3); (try clear hcz51_4); (try clear hcz51_5); (try clear hcz51_6); (try clear hcz51_7); (try clear hcz51_8); (try clear hcz51_9); (try clear hcz52_0); (try clear hcz52_1); (try clear hcz52_10); (try clear hcz52_11); (try clear hcz52_2); (try clear hcz52_3); (try clear hcz52_4); (try clear hcz52_5); (try clear hcz52_6); (try clear hcz52_7); (try clear hcz52_8); (try clear hcz52_9); (try clear hfz22_10); (try clear hfz22_11); (try clear hfz22_9); (try clear hfz24_0); (try clear hfz24_1); (try clear hfz24_10); (try clear hfz24_11); (try clear hfz24_2); (try clear hfz24_3); (try clear hfz24_4); (try clear hfz24_5); (try clear hfz24_6); (try clear hfz24_7); (try clear hfz24_8); (try clear hfz24_9); (try clear hfz25_0); (try clear hfz25_1); (try clear hfz25_10); (try clear hfz25_11); (try clear hfz25_2); (try clear hfz25_3); (try clear hfz25_4); (try clear hfz25_5); (try clear hfz25_6); (try clear hfz25_7); (try clear hfz25_8); (try clear hfz25_9); (try clear hfz27_0); (try clear hfz27_1); (try clear hfz27_10); (try clear hfz27_11); (try clear hfz27_2); (try clear hfz27_3); (try clear hfz27_4); (try clear hfz27_5); (try clear hfz27_6); (try clear hfz27_7); (try clear hfz27_8); (try clear hfz27_9); (try clear hfz28_0); (try clear hfz28_1); (try clear hfz28_10); (try clear hfz28_11); (try clear hfz28_2); (try clear hfz28_3); (try clear hfz28_4); (try clear hfz28_5); (try clear hfz28_6); (try clear hfz28_7); (try clear hfz28_8); (try clear hfz28_9); (try clear hfz30_0); (try clear hfz30_1); (try clear hfz30_10); (try clear hfz30_11); (try clear hfz30_2); (try clear hfz30_3); (try clear hfz30_4); (try clear hfz30_5); (try clear hfz30_6); (try clear hfz30_7); (try clear hfz30_8); (try clear hfz30_9); (try clear hfz31_0); (try clear hfz31_1); (try clear hfz31_10); (try clear hfz31_11); (try clear hfz31_2); (try clear hfz31_3); (try clear hfz31_4); (try clear hfz31_5); (try clear hfz31_6); (try clear hfz31_7); (try clear hfz31_8); (try clear hfz31_9); (try clear hfz33_0); (try clear hfz33_1); (try clear hfz33_10); (try clear hfz33_11); (try clear hfz33_2); (try clear hfz33_3); (try clear hfz33_4); (try clear hfz33_5); (try clear hfz33_6); (try clear hfz33_7); (try clear hfz33_8); (try clear hfz33_9); (try clear hfz34_0); (try clear hfz34_1); (try clear hfz34_10); (try clear hfz34_11); (try clear hfz34_2); (try clear hfz34_3); (try clear hfz34_4); (try clear hfz34_5); (try clear hfz34_6); (try clear hfz34_7); (try clear hfz34_8); (try clear hfz34_9); (try clear hfz36_0); (try clear hfz36_1); (try clear hfz36_10); (try clear hfz36_11); (try clear hfz36_2); (try clear hfz36_3); (try clear hfz36_4); (try clear hfz36_5); (try clear hfz36_6); (try clear hfz36_7); (try clear hfz36_8); (try clear hfz36_9); (try clear hfz37_0); (try clear hfz37_1); (try clear hfz37_10); (try clear hfz37_11); (try clear hfz37_2); (try clear hfz37_3); (try clear hfz37_4); (try clear hfz37_5); (try clear hfz37_6); (try clear hfz37_7); (try clear hfz37_8); (try clear hfz37_9); (try clear hfz39_0); (try clear hfz39_1); (try clear hfz39_10); (try clear hfz39_11); (try clear hfz39_2); (try clear hfz39_3); (try clear hfz39_4); (try clear hfz39_5); (try clear hfz39_6); (try clear hfz39_7); (try clear hfz39_8); (try clear hfz39_9); (try clear hfz40_0); (try clear hfz40_1); (try clear hfz40_10); (try clear hfz40_11); (try clear hfz40_2); (try clear hfz40_3); (try clear hfz40_4); (try clear hfz40_5); (try clear hfz40_6); (try clear hfz40_7); (try clear hfz40_8); (try clear hfz40_9); (try clear hfz42_0); (try clear hfz42_1); (try clear hfz42_10); (try clear hfz42_11); (try clear hfz42_2); (try clear hfz42_3); (try clear hfz42_4); (try clear hfz42_5); (try clear hfz42_6); (try clear hfz42_7); (try clear hfz42_8); (try clear hfz42_9); (try clear hfz43_0); (try clear hfz43_1); (try clear hfz43_10); (try clear hfz43_11); (try clear hfz43_2); (try clear hfz43_3); (try clear hfz43_4); (try clear hfz43_5); (try clear hfz43_6); (try clear hfz43_7); (try clear hfz43_8); (try clear hfz43_9); (try clear hfz45_0); (try clear hfz45_1); (try clear hfz45_10); (try clear hfz45_11); (try clear hfz45_2); (try clear hfz45_3); (try clear hfz45_4); (try clear hfz45_5); (try clear hfz45_6); (try clear hfz45_7); (try clear hfz45_8); (try clear hfz45_9); (try clear hfz46_0); (try clear hfz46_1); (try clear hfz46_10); (try clear hfz46_11); (try clear hfz46_2); (try clear hfz46_3); (try clear hfz46_4); (try clear hfz46_5); (try clear hfz46_6); (try clear hfz46_7); (try clear hfz46_8); (try clear hfz46_9); (try clear hfz48_0); (try clear hfz48_1); (try clear hfz48_10); (try clear hfz48_11); (try clear hfz48_2); (try clear hfz48_3); (try clear hfz48_4); (try clear hfz48_5); (try clear hfz48_6); (try clear hfz48_7); (try clear hfz48_8); (try clear hfz48_9); (try clear hfz49_0); (try clear hfz49_1); (try clear hfz49_10); (try clear hfz49_11); (try clear hfz49_2); (try clear hfz49_3); (try clear hfz49_4); (try clear hfz49_5); (try clear hfz49_6); (try clear hfz49_7); (try clear hfz49_8); (try clear hfz49_9); (try clear hfz51_0); (try clear hfz51_1); (try clear hfz51_10); (try clear hfz51_11); (try clear hfz51_2); (try clear hfz51_3); (try clear hfz51_4); (try clear hfz51_5); (try clear hfz51_6); (try clear hfz51_7); (try clear hfz51_8); (try clear hfz51_9); (try clear hfz52_0); (try clear hfz52_1); (try clear hfz52_10); (try clear hfz52_11); (try clear hfz52_2); (try clear hfz52_3); (try clear hfz52_4); (try clear hfz52_5); (try clear hfz52_6); (try clear hfz52_7); (try clear hfz52_8); (try clear hfz52_9)
  obtain ⟨kq, x89_2, rfl, HA, HJ2, BK619, BK620, HB⟩ := hcut
  cases kq with
  | zero => exact absurd HA.out (by simp [prebendref13_SameJob.j0])
  | succ kj2 =>
   have H := HA.out
   clear HA
   simp only [prebendref13_SameJob.j0] at H
   by_cases c53 : x89_2 = true
   ·subst c53
    have H1 : (some false) = some r := by rw [if_pos rfl] at H; exact H
    clear H
    have H := H1
    clear H1
    obtain rfl := Option.some.inj H
    go_wp2
    repeat (go_quiet (fail); try go_wp2)
    go_ret
    exact ⟨by first | rfl | (simp [errW_none, errW_some] <;> rfl) | (simp [*, errW_none, errW_some] <;> rfl), by repeat (first | (with_reducible first | exact HB.out | apply below_alloc | apply pw_below_drewN | apply below_drew1 | refine below_set ?_ GE619.out | refine below_set ?_ GE620.out) | exact HB.out)⟩
   ·replace c53 := Bool.eq_false_iff.mpr c53
    subst c53
    have H1 : (prebendref13_SameJob.l0 kj2 0 a0_0 a0_1 a0_2 a0_3 a0_4 a0_5 a0_6 a0_7 a0_8 a0_9 a0_10 l0_11 a1_0 a1_1 a1_2 a1_3 a1_4 a1_5 a1_6 a1_7 a1_8 a1_9 a1_10 l1_11) = some r := by rw [if_neg (show ¬ (false = true) by decide)] at H; exact H
    clear H
    have H := H1
    clear H1
    have H' := Aside0.mk H
    clear H
    go_wp2
    repeat (go_quiet (fail); try go_wp2)
    go_loopg [5] kj2 (fun kq v5 w' => ∃ (x5_2 : Int), v5 = .int .i64 x5_2 ∧ Aside0 (prebendref13_SameJob.l0 kq x5_2 a0_0 a0_1 a0_2 a0_3 a0_4 a0_5 a0_6 a0_7 a0_8 a0_9 a0_10 l0_11 a1_0 a1_1 a1_2 a1_3 a1_4 a1_5 a1_6 a1_7 a1_8 a1_9 a1_10 l1_11 = some r) ∧ Aside0 (kq ≤ kj2) ∧ Aside0 (w'.heap[gb619]? = some (.cells #[.int .i64 a0_0, .int .i64 a0_1, .int .i64 a0_2, .int .i64 a0_3, .int .i64 a0_4, .int .i64 a0_5, .int .i64 a0_6, .int .i64 a0_7, .int .i64 a0_8, .int .i64 a0_9, .int .i64 a0_10, (.slice A0_11 l0_11.length c0_11)] 100 (0, 0))) ∧ Aside0 (w'.heap[gb620]? = some (.cells #[.int .i64 a1_0, .int .i64 a1_1, .int .i64 a1_2, .int .i64 a1_3, .int .i64 a1_4, .int .i64 a1_5, .int .i64 a1_6, .int .i64 a1_7, .int .i64 a1_8, .int .i64 a1_9, .int .i64 a1_10, (.slice A1_11 l1_11.length c1_11)] 100 (0, 0))) ∧ Aside0 (Below w.heap.size w w'))
    case atStart => exact ⟨(0), ez, H', ⟨Nat.le_refl _⟩, ⟨mBK BK619.out⟩, ⟨mBK BK620.out⟩, ⟨mBs HB.out⟩⟩
    case round =>
     clear H'
     (try clear c1); (try clear c2); (try clear p2); (try clear c3); (try clear c4); (try clear c5); (try clear c6); (try clear c6b0); (try clear c6b1); (try clear c7); (try clear c7b0); (try clear c7b1); (try clear c8); (try clear c8b0); (try clear c8b1); (try clear c9); (try clear c9b0); (try clear c9b1); (try clear c10); (try clear c10b0); (try clear c10b1); (try clear c11); (try clear c11b0); (try clear c11b1); (try clear c12); (try clear c12b0); (try clear c12b1); (try clear c13); (try clear c13b0); (try clear c13b1); (try clear c14); (try clear c14b0); (try clear c14b1); (try clear c15); (try clear c15b0); (try clear c15b1); (try clear c23); (try clear c26); (try clear c29); (try clear c32); (try clear c35); (try clear c38); (try clear c41); (try clear c44); (try clear c47); (try clear c50); (try clear c53); (try clear hcz24_0); (try clear hcz24_1); (try clear hcz24_10); (try clear hcz24_11); (try clear hcz24_2); (try clear hcz24_3); (try clear hcz24_4); (try clear hcz24_5); (try clear hcz24_6); (try clear hcz24_7); (try clear hcz24_8); (try clear hcz24_9); (try clear hcz25_0); (try clear hcz25_1); (try clear hcz25_10); (try clear hcz25_11); (try clear hcz25_2); (try clear hcz25_3); (try clear hcz25_4); (try clear hcz25_5); (try clear hcz25_6); (try clear hcz25_7); (try clear hcz25_8); (try clear hcz25_9); (try clear hcz27_0); (try clear hcz27_1); (try clear hcz27_10); (try clear hcz27_11); (try clear hcz27_2); (try clear hcz27_3); (try clear hcz27_4); (try clear hcz27_5); (try clear hcz27_6); (try clear hcz27_7); (try clear hcz27_8); (try clear hcz27_9); (try clear hcz28_0); (try clear hcz28_1); (try clear hcz28_10); (try clear hcz28_11); (try clear hcz28_2); (try clear hcz28_3); (try clear hcz28_4); (try clear hcz28_5); (try clear hcz28_6); (try clear hcz28_7); (try clear hcz28_8); (try clear hcz28_9); (try clear hcz30_0); (try clear hcz30_1); (try clear hcz30_10); (try clear hcz30_11); (try clear hcz30_2); (try clear hcz30_3); (try clear hcz30_4); (try clear hcz30_5); (try clear hcz30_6); (try clear hcz30_7); (try clear hcz30_8); (try clear hcz30_9); (try clear hcz31_0); (try clear hcz31_1); (try clear hcz31_10); (try clear hcz31_11); (try clear hcz31_2); (try clear hcz31_3); (try clear hcz31_4); (try clear hcz31_5); (try clear hcz31_6); (try clear hcz31_7); (try clear hcz31_8); (try clear hcz31_9); (try clear hcz33_0); (try clear hcz33_1); (try clear hcz33_10); (try clear hcz33_11); (try clear hcz33_2); (try clear hcz33_3); (try clear hcz33_4); (try clear hcz33_5); (try clear hcz33_6); (try clear hcz33_7); (try clear hcz33_8); (try clear hcz33_9); (try clear hcz34_0); (try clear hcz34_1); (try clear hcz34_10); (try clear hcz34_11); (try clear hcz34_2); (try clear hcz34_3); (try clear hcz34_4); (try clear hcz34_5); (try clear hcz34_6); (try clear hcz34_7); (try clear hcz34_8); (try clear hcz34_9); (try clear hcz36_0); (try clear hcz36_1); (try clear hcz36_10); (try clear hcz36_11); (try clear hcz36_2); (try clear hcz36_3); (try clear hcz36_4); (try clear hcz36_5); (try clear hcz36_6); (try clear hcz36_7); (try clear hcz36_8); (try clear hcz36_9); (try clear hcz37_0); (try clear hcz37_1); (try clear hcz37_10); (try clear hcz37_11); (try clear hcz37_2); (try clear hcz37_3); (try clear hcz37_4); (try clear hcz37_5); (try clear hcz37_6); (try clear hcz37_7); (try clear hcz37_8); (try clear hcz37_9); (try clear hcz39_0); (try clear hcz39_1); (try clear hcz39_10); (try clear hcz39_11); (try clear hcz39_2); (try clear hcz39_3); (try clear hcz39_4); (try clear hcz39_5); (try clear hcz39_6); (try clear hcz39_7); (try clear hcz39_8); (try clear hcz39_9); (try clear hcz40_0); (try clear hcz40_1); (try clear hcz40_10); (try clear hcz40_11); (try clear hcz40_2); (try clear hcz40_3); (try clear hcz40_4); (try clear hcz40_5); (try clear hcz40_6); (try clear hcz40_7); (try clear hcz40_8); (try clear hcz40_9); (try clear hcz42_0); (try clear hcz42_1); (try clear hcz42_10); (try clear hcz42_11); (try clear hcz42_2); (try clear hcz42_3); (try clear hcz42_4); (try clear hcz42_5); (try clear hcz42_6); (try clear hcz42_7); (try clear hcz42_8); (try clear hcz42_9); (try clear hcz43_0); (try clear hcz43_1); (try clear hcz43_10); (try clear hcz43_11); (try clear hcz43_2); (try clear hcz43_3); (try clear hcz43_4); (try clear hcz43_5); (try clear hcz43_6); (try clear hcz43_7); (try clear hcz43_8); (try clear hcz43_9); (try clear hcz45_0); (try clear hcz45_1); (try clear hcz45_10); (try clear hcz45_11); (try clear hcz45_2); (try clear hcz45_3); (try clear hcz45_4); (try clear hcz45_5); (try clear hcz45_6); (try clear hcz45_7); (try clear hcz45_8); (try clear hcz45_9); (try clear hcz46_0); (try clear hcz46_1); (try clear hcz46_10); (try clear hcz46_11); (try clear hcz46_2); (try clear hcz46_3); (try clear hcz46_4); (try clear hcz46_5); (try clear hcz46_6); (try clear hcz46_7); (try clear hcz46_8); (try clear hcz46_9); (try clear hcz48_0); (try clear hcz48_1); (try clear hcz48_10); (try clear hcz48_11); (try clear hcz48_2); (try clear hcz48_3); (try clear hcz48_4); (try clear hcz48_5); (try clear hcz48_6); (try clear hcz48_7); (try clear hcz48_8); (try clear hcz48_9); (try clear hcz49_0); (try clear hcz49_1); (try clear hcz49_10); (try clear hcz49_11); (try clear hcz49_2); (try clear hcz49_3); (try clear hcz49_4); (try clear hcz49_5); (try clear hcz49_6); (try clear hcz49_7); (try clear hcz49_8); (try clear hcz49_9); (try clear hcz51_0); (try clear hcz51_1); (try clear hcz51_10); (try clear hcz51_11); (try clear hcz51_2); (try clear hcz51_3); (try clear hcz51_4); (try clear hcz51_5); (try clear hcz51_6); (try clear hcz51_7); (try clear hcz51_8); (try clear hcz51_9); (try clear hcz52_0); (try clear hcz52_1); (try clear hcz52_10); (try clear hcz52_11); (try clear hcz52_2); (try clear hcz52_3); (try clear hcz52_4); (try clear hcz52_5); (try clear hcz52_6); (try clear hcz52_7); (try clear hcz52_8); (try clear hcz52_9); (try clear hfz22_10); (try clear hfz22_11); (try clear hfz22_9); (try clear hfz24_0); (try clear hfz24_1); (try clear hfz24_10); (try clear hfz24_11); (try clear hfz24_2); (try clear hfz24_3); (try clear hfz24_4); (try clear hfz24_5); (try clear hfz24_6); (try clear hfz24_7); (try clear hfz24_8); (try clear hfz24_9); (try clear hfz25_0); (try clear hfz25_1); (try clear hfz25_10); (try clear hfz25_11); (try clear hfz25_2); (try clear hfz25_3); (try clear hfz25_4); (try clear hfz25_5); (try clear hfz25_6); (try clear hfz25_7); (try clear hfz25_8); (try clear hfz25_9); (try clear hfz27_0); (try clear hfz27_1); (try clear hfz27_10); (try clear hfz27_11); (try clear hfz27_2); (try clear hfz27_3); (try clear hfz27_4); (try clear hfz27_5); (try clear hfz27_6); (try clear hfz27_7); (try clear hfz27_8); (try clear hfz27_9); (try clear hfz28_0); (try clear hfz28_1); (try clear hfz28_10); (try clear hfz28_11); (try clear hfz28_2); (try clear hfz28_3); (try clear hfz28_4); (try clear hfz28_5); (try clear hfz28_6); (try clear hfz28_7); (try clear hfz28_8); (try clear hfz28_9); (try clear hfz30_0); (try clear hfz30_1); (try clear hfz30_10); (try clear hfz30_11); (try clear hfz30_2); (try clear hfz30_3); (try clear hfz30_4); (try clear hfz30_5); (try clear hfz30_6); (try clear hfz30_7); (try clear hfz30_8); (try clear hfz30_9); (try clear hfz31_0); (try clear hfz31_1); (try clear hfz31_10); (try clear hfz31_11); (try clear hfz31_2); (try clear hfz31_3); (try clear hfz31_4); (try clear hfz31_5); (try clear hfz31_6); (try clear hfz31_7); (try clear hfz31_8); (try clear hfz31_9); (try clear hfz33_0); (try clear hfz33_1); (try clear hfz33_10); (try clear hfz33_11); (try clear hfz33_2); (try clear hfz33_3); (try clear hfz33_4); (try clear hfz33_5); (try clear hfz33_6); (try clear hfz33_7); (try clear hfz33_8); (try clear hfz33_9); (try clear hfz34_0); (try clear hfz34_1); (try clear hfz34_10); (try clear hfz34_11); (try clear hfz34_2); (try clear hfz34_3); (try clear hfz34_4); (try clear hfz34_5); (try clear hfz34_6); (try clear hfz34_7); (try clear hfz34_8); (try clear hfz34_9); (try clear hfz36_0); (try clear hfz36_1); (try clear hfz36_10); (try clear hfz36_11); (try clear hfz36_2); (try clear hfz36_3); (try clear hfz36_4); (try clear hfz36_5); (try clear hfz36_6); (try clear hfz36_7); (try clear hfz36_8); (try clear hfz36_9); (try clear hfz37_0); (try clear hfz37_1); (try clear hfz37_10); (try clear hfz37_11); (try clear hfz37_2); (try clear hfz37_3); (try clear hfz37_4); (try clear hfz37_5); (try clear hfz37_6); (try clear hfz37_7); (try clear hfz37_8); (try clear hfz37_9); (try clear hfz39_0); (try clear hfz39_1); (try clear hfz39_10); (try clear hfz39_11); (try clear hfz39_2); (try clear hfz39_3); (try clear hfz39_4); (try clear hfz39_5); (try clear hfz39_6); (try clear hfz39_7); (try clear hfz39_8); (try clear hfz39_9); (try clear hfz40_0); (try clear hfz40_1); (try clear hfz40_10); (try clear hfz40_11); (try clear hfz40_2); (try clear hfz40_3); (try clear hfz40_4); (try clear hfz40_5); (try clear hfz40_6); (try clear hfz40_7); (try clear hfz40_8); (try clear hfz40_9); (try clear hfz42_0); (try clear hfz42_1); (try clear hfz42_10); (try clear hfz42_11); (try clear hfz42_2); (try clear hfz42_3); (try clear hfz42_4); (try clear hfz42_5); (try clear hfz42_6); (try clear hfz42_7); (try clear hfz42_8); (try clear hfz42_9); (try clear hfz43_0); (try clear hfz43_1); (try clear hfz43_10); (try clear hfz43_11); (try clear hfz43_2); (try clear hfz43_3); (try clear hfz43_4); (try clear hfz43_5); (try clear hfz43_6); (try clear hfz43_7); (try clear hfz43_8); (try clear hfz43_9); (try clear hfz45_0); (try clear hfz45_1); (try clear hfz45_10); (try clear hfz45_11); (try clear hfz45_2); (try clear hfz45_3); (try clear hfz45_4); (try clear hfz45_5); (try clear hfz45_6); (try clear hfz45_7); (try clear hfz45_8); (try clear hfz45_9); (try clear hfz46_0); (try clear hfz46_1); (try clear hfz46_10); (try clear hfz46_11); (try clear hfz46_2); (try clear hfz46_3); (try clear hfz46_4); (try clear hfz46_5); (try clear hfz46_6); (try clear hfz46_7); (try clear hfz46_8); (try clear hfz46_9); (try clear hfz48_0); (try clear hfz48_1); (try clear hfz48_10); (try clear hfz48_11); (try clear hfz48_2); (try clear hfz48_3); (try clear hfz48_4); (try clear hfz48_5); (try clear hfz48_6); (try clear hfz48_7); (try clear hfz48_8); (try clear hfz48_9); (try clear hfz49_0); (try clear hfz49_1); (try clear hfz49_10); (try clear hfz49_11); (try clear hfz49_2); (try clear hfz49_3); (try clear hfz49_4); (try clear hfz49_5); (try clear hfz49_6); (try clear hfz49_7); (try clear hfz49_8); (try clear hfz49_9); (try clear hfz51_0); (try clear hfz51_1); (try clear hfz51_10); (try clear hfz51_11); (try clear hfz51_2); (try clear hfz51_3); (try clear hfz51_4); (try clear hfz51_5); (try clear hfz51_6); (try clear hfz51_7); (try clear hfz51_8); (try clear hfz51_9); (try clear hfz52_0); (try clear hfz52_1); (try clear hfz52_10); (try clear hfz52_11); (try clear hfz52_2); (try clear hfz52_3); (try clear hfz52_4); (try clear hfz52_5); (try clear hfz52_6); (try clear hfz52_7); (try clear hfz52_8); (try clear hfz52_9); (try clear p2)
     obtain ⟨x5_2, rfl, HA, HK2, BK619, BK620, HB⟩ := hrel
     cases gk with
     | zero => exact absurd HA.out (by simp [prebendref13_SameJob.l0])
     | succ k2 =>
      have H := HA.out
      clear HA
      simp only [prebendref13_SameJob.l0] at H
      by_cases c54 : x5_2 < (l0_11.length : Int)
      ·rw [if_pos c54] at H
       have c54b0 : decide (x5_2 < (l0_11.length : Int)) = true := decide_eq_true c54
       clear c54
       by_cases c55 : 0 ≤ x5_2
       ·rw [if_pos c55] at H
        have c55b0 : decide (0 ≤ x5_2) = true := decide_eq_true c55
        clear c55
        by_cases c56 : x5_2 < (l1_11.length : Int)
        ·rw [if_pos c56] at H
         have c56b0 : decide (x5_2 < (l1_11.length : Int)) = true := decide_eq_true c56
         clear c56
         by_cases c57 : (!(((rd_T102 l0_11 x5_2).f0) == ((rd_T102 l1_11 x5_2).f0)) || (!(((rd_T102 l0_11 x5_2).f1) == ((rd_T102 l1_11 x5_2).f1)))) = true
         ·rw [if_pos c57] at H
          have c57b0 : (!(((rd_T102 l0_11 x5_2).f0) == ((rd_T102 l1_11 x5_2).f0)) || (!(((rd_T102 l0_11 x5_2).f1) == ((rd_T102 l1_11 x5_2).f1)))) = true := c57
          clear c57
          obtain rfl := Option.some.inj H
          have hnb58 := NB619_620.out
          have hnc58 := NB620_619.out
          have hcz59_0 : wr.cell? ⟨gb619, 0, none⟩ = some (.int .i64 a0_0) := (blk_cell BK619.out 0).trans rfl
          have hcz59_1 : wr.cell? ⟨gb619, 1, none⟩ = some (.int .i64 a0_1) := (blk_cell BK619.out 1).trans rfl
          have hcz59_2 : wr.cell? ⟨gb619, 2, none⟩ = some (.int .i64 a0_2) := (blk_cell BK619.out 2).trans rfl
          have hcz59_3 : wr.cell? ⟨gb619, 3, none⟩ = some (.int .i64 a0_3) := (blk_cell BK619.out 3).trans rfl
          have hcz59_4 : wr.cell? ⟨gb619, 4, none⟩ = some (.int .i64 a0_4) := (blk_cell BK619.out 4).trans rfl
          have hcz59_5 : wr.cell? ⟨gb619, 5, none⟩ = some (.int .i64 a0_5) := (blk_cell BK619.out 5).trans rfl
          have hcz59_6 : wr.cell? ⟨gb619, 6, none⟩ = some (.int .i64 a0_6) := (blk_cell BK619.out 6).trans rfl
          have hcz59_7 : wr.cell? ⟨gb619, 7, none⟩ = some (.int .i64 a0_7) := (blk_cell BK619.out 7).trans rfl
          have hcz59_8 : wr.cell? ⟨gb619, 8, none⟩ = some (.int .i64 a0_8) := (blk_cell BK619.out 8).trans rfl
          have hcz59_9 : wr.cell? ⟨gb619, 9, none⟩ = some (.int .i64 a0_9) := (blk_cell BK619.out 9).trans rfl
          have hcz59_10 : wr.cell? ⟨gb619, 10, none⟩ = some (.int .i64 a0_10) := (blk_cell BK619.out 10).trans rfl
          have hcz59_11 : wr.cell? ⟨gb619, 11, none⟩ = some (.slice A0_11 l0_11.length c0_11) := (blk_cell BK619.out 11).trans rfl
          have hfz59_0 := blk_frozen BK619.out 0
          have hfz59_1 := blk_frozen BK619.out 1
          have hfz59_2 := blk_frozen BK619.out 2
          have hfz59_3 := blk_frozen BK619.out 3
          have hfz59_4 := blk_frozen BK619.out 4
          have hfz59_5 := blk_frozen BK619.out 5
          have hfz59_6 := blk_frozen BK619.out 6
          have hfz59_7 := blk_frozen BK619.out 7
          have hfz59_8 := blk_frozen BK619.out 8
          have hfz59_9 := blk_frozen BK619.out 9
          have hfz59_10 := blk_frozen BK619.out 10
          have hfz59_11 := blk_frozen BK619.out 11
          have p621 : 0 ≤ (x5_2 : Int) := oda
          have q621 : x5_2 < (l0_11.length : Int) := oda
          obtain ⟨ad621, e621, hx621_0, hx621_1⟩ := at_T102 HR0_11.out x5_2 p621 q621
          cases e621
          replace hx621_0 := (HB.out.cell (World.block_lt_of_cell? w _ hx621_0)).trans hx621_0
          replace hx621_1 := (HB.out.cell (World.block_lt_of_cell? w _ hx621_1)).trans hx621_1
          replace p621 := eq_true p621
          replace q621 := eq_true q621
          have hcz60_0 : wr.cell? ⟨gb620, 0, none⟩ = some (.int .i64 a1_0) := (blk_cell BK620.out 0).trans rfl
          have hcz60_1 : wr.cell? ⟨gb620, 1, none⟩ = some (.int .i64 a1_1) := (blk_cell BK620.out 1).trans rfl
          have hcz60_2 : wr.cell? ⟨gb620, 2, none⟩ = some (.int .i64 a1_2) := (blk_cell BK620.out 2).trans rfl
          have hcz60_3 : wr.cell? ⟨gb620, 3, none⟩ = some (.int .i64 a1_3) := (blk_cell BK620.out 3).trans rfl
          have hcz60_4 : wr.cell? ⟨gb620, 4, none⟩ = some (.int .i64 a1_4) := (blk_cell BK620.out 4).trans rfl
          have hcz60_5 : wr.cell? ⟨gb620, 5, none⟩ = some (.int .i64 a1_5) := (blk_cell BK620.out 5).trans rfl
          have hcz60_6 : wr.cell? ⟨gb620, 6, none⟩ = some (.int .i64 a1_6) := (blk_cell BK620.out 6).trans rfl
          have hcz60_7 : wr.cell? ⟨gb620, 7, none⟩ = some (.int .i64 a1_7) := (blk_cell BK620.out 7).trans rfl
          have hcz60_8 : wr.cell? ⟨gb620, 8, none⟩ = some (.int .i64 a1_8) := (blk_cell BK620.out 8).trans rfl
          have hcz60_9 : wr.cell? ⟨gb620, 9, none⟩ = some (.int .i64 a1_9) := (blk_cell BK620.out 9).trans rfl
          have hcz60_10 : wr.cell? ⟨gb620, 10, none⟩ = some (.int .i64 a1_10) := (blk_cell BK620.out 10).trans rfl
          have hcz60_11 : wr.cell? ⟨gb620, 11, none⟩ = some (.slice A1_11 l1_11.length c1_11) := (blk_cell BK620.out 11).trans rfl
          have hfz60_0 := blk_frozen BK620.out 0
          have hfz60_1 := blk_frozen BK620.out 1
          have hfz60_2 := blk_frozen BK620.out 2
          have hfz60_3 := blk_frozen BK620.out 3
          have hfz60_4 := blk_frozen BK620.out 4
          have hfz60_5 := blk_frozen BK620.out 5
          have hfz60_6 := blk_frozen BK620.out 6
          have hfz60_7 := blk_frozen BK620.out 7
          have hfz60_8 := blk_frozen BK620.out 8
          have hfz60_9 := blk_frozen BK620.out 9
          have hfz60_10 := blk_frozen BK620.out 10
          have hfz60_11 := blk_frozen BK620.out 11
          have p622 : 0 ≤ (x5_2 : Int) := oda
          have q622 : x5_2 < (l1_11.length : Int) := oda
          obtain ⟨ad622, e622, hx622_0, hx622_1⟩ := at_T102 HR1_11.out x5_2 p622 q622
          cases e622
          replace hx622_0 := (HB.out.cell (World.block_lt_of_cell? w _ hx622_0)).trans hx622_0
          replace hx622_1 := (HB.out.cell (World.block_lt_of_cell? w _ hx622_1)).trans hx622_1
          replace p622 := eq_true p622
          replace q622 := eq_true q622
          go_wp2
          repeat (go_quiet (fail); try go_wp2)
          go_ret
          exact ⟨by first | rfl | (simp [errW_none, errW_some] <;> rfl) | (simp [*, errW_none, errW_some] <;> rfl), by repeat (first | (with_reducible first | exact HB.out | apply below_alloc | apply pw_below_drewN | apply below_drew1 | refine below_set ?_ GE619.out | refine below_set ?_ GE620.out) | exact HB.out)⟩
         ·rw [if_neg c57] at H
          have c57b0 : (!(((rd_T102 l0_11 x5_2).f0) == ((rd_T102 l1_11 x5_2).f0)) || (!(((rd_T102 l0_11 x5_2).f1) == ((rd_T102 l1_11 x5_2).f1)))) = false := by simpa using c57
          clear c57
          have H' := Aside0.mk H
          clear H
          have hnb61 := NB619_620.out
          have hnc61 := NB620_619.out
          have hcz62_0 : wr.cell? ⟨gb619, 0, none⟩ = some (.int .i64 a0_0) := (blk_cell BK619.out 0).trans rfl
          have hcz62_1 : wr.cell? ⟨gb619, 1, none⟩ = some (.int .i64 a0_1) := (blk_cell BK619.out 1).trans rfl
          have hcz62_2 : wr.cell? ⟨gb619, 2, none⟩ = some (.int .i64 a0_2) := (blk_cell BK619.out 2).trans rfl
          have hcz62_3 : wr.cell? ⟨gb619, 3, none⟩ = some (.int .i64 a0_3) := (blk_cell BK619.out 3).trans rfl
          have hcz62_4 : wr.cell? ⟨gb619, 4, none⟩ = some (.int .i64 a0_4) := (blk_cell BK619.out 4).trans rfl
          have hcz62_5 : wr.cell? ⟨gb619, 5, none⟩ = some (.int .i64 a0_5) := (blk_cell BK619.out 5).trans rfl
          have hcz62_6 : wr.cell? ⟨gb619, 6, none⟩ = some (.int .i64 a0_6) := (blk_cell BK619.out 6).trans rfl
          have hcz62_7 : wr.cell? ⟨gb619, 7, none⟩ = some (.int .i64 a0_7) := (blk_cell BK619.out 7).trans rfl
          have hcz62_8 : wr.cell? ⟨gb619, 8, none⟩ = some (.int .i64 a0_8) := (blk_cell BK619.out 8).trans rfl
          have hcz62_9 : wr.cell? ⟨gb619, 9, none⟩ = some (.int .i64 a0_9) := (blk_cell BK619.out 9).trans rfl
          have hcz62_10 : wr.cell? ⟨gb619, 10, none⟩ = some (.int .i64 a0_10) := (blk_cell BK619.out 10).trans rfl
          have hcz62_11 : wr.cell? ⟨gb619, 11, none⟩ = some (.slice A0_11 l0_11.length c0_11) := (blk_cell BK619.out 11).trans rfl
          have hfz62_0 := blk_frozen BK619.out 0
          have hfz62_1 := blk_frozen BK619.out 1
          have hfz62_2 := blk_frozen BK619.out 2
          have hfz62_3 := blk_frozen BK619.out 3
          have hfz62_4 := blk_frozen BK619.out 4
          have hfz62_5 := blk_frozen BK619.out 5
          have hfz62_6 := blk_frozen BK619.out 6
          have hfz62_7 := blk_frozen BK619.out 7
          have hfz62_8 := blk_frozen BK619.out 8
          have hfz62_9 := blk_frozen BK619.out 9
          have hfz62_10 := blk_frozen BK619.out 10
          have hfz62_11 := blk_frozen BK619.out 11
          have p621 : 0 ≤ (x5_2 : Int) := oda
          have q621 : x5_2 < (l0_11.length : Int) := oda
          obtain ⟨ad621, e621, hx621_0, hx621_1⟩ := at_T102 HR0_11.out x5_2 p621 q621
          cases e621
          replace hx621_0 := (HB.out.cell (World.block_lt_of_cell? w _ hx621_0)).trans hx621_0
          replace hx621_1 := (HB.out.cell (World.block_lt_of_cell? w _ hx621_1)).trans hx621_1
          replace p621 := eq_true p621
          replace q621 := eq_true q621
          have hcz63_0 : wr.cell? ⟨gb620, 0, none⟩ = some (.int .i64 a1_0) := (blk_cell BK620.out 0).trans rfl
          have hcz63_1 : wr.cell? ⟨gb620, 1, none⟩ = some (.int .i64 a1_1) := (blk_cell BK620.out 1).trans rfl
          have hcz63_2 : wr.cell? ⟨gb620, 2, none⟩ = some (.int .i64 a1_2) := (blk_cell BK620.out 2).trans rfl
          have hcz63_3 : wr.cell? ⟨gb620, 3, none⟩ = some (.int .i64 a1_3) := (blk_cell BK620.out 3).trans rfl
          have hcz63_4 : wr.cell? ⟨gb620, 4, none⟩ = some (.int .i64 a1_4) := (blk_cell BK620.out 4).trans rfl
          have hcz63_5 : wr.cell? ⟨gb620, 5, none⟩ = some (.int .i64 a1_5) := (blk_cell BK620.out 5).trans rfl
          have hcz63_6 : wr.cell? ⟨gb620, 6, none⟩ = some (.int .i64 a1_6) := (blk_cell BK620.out 6).trans rfl
          have hcz63_7 : wr.cell? ⟨gb620, 7, none⟩ = some (.int .i64 a1_7) := (blk_cell BK620.out 7).trans rfl
          have hcz63_8 : wr.cell? ⟨gb620, 8, none⟩ = some (.int .i64 a1_8) := (blk_cell BK620.out 8).trans rfl
          have hcz63_9 : wr.cell? ⟨gb620, 9, none⟩ = some (.int .i64 a1_9) := (blk_cell BK620.out 9).trans rfl
          have hcz63_10 : wr.cell? ⟨gb620, 10, none⟩ = some (.int .i64 a1_10) := (blk_cell BK620.out 10).trans rfl
          have hcz63_11 : wr.cell? ⟨gb620, 11, none⟩ = some (.slice A1_11 l1_11.length c1_11) := (blk_cell BK620.out 11).trans rfl
          have hfz63_0 := blk_frozen BK620.out 0
          have hfz63_1 := blk_frozen BK620.out 1
          have hfz63_2 := blk_frozen BK620.out 2
          have hfz63_3 := blk_frozen BK620.out 3
          have hfz63_4 := blk_frozen BK620.out 4
          have hfz63_5 := blk_frozen BK620.out 5
          have hfz63_6 := blk_frozen BK620.out 6
          have hfz63_7 := blk_frozen BK620.out 7
          have hfz63_8 := blk_frozen BK620.out 8
          have hfz63_9 := blk_frozen BK620.out 9
          have hfz63_10 := blk_frozen BK620.out 10
          have hfz63_11 := blk_frozen BK620.out 11
          have p622 : 0 ≤ (x5_2 : Int) := oda
          have q622 : x5_2 < (l1_11.length : Int) := oda
          obtain ⟨ad622, e622, hx622_0, hx622_1⟩ := at_T102 HR1_11.out x5_2 p622 q622
          cases e622
          replace hx622_0 := (HB.out.cell (World.block_lt_of_cell? w _ hx622_0)).trans hx622_0
          replace hx622_1 := (HB.out.cell (World.block_lt_of_cell? w _ hx622_1)).trans hx622_1
          replace p622 := eq_true p622
          replace q622 := eq_true q622
          go_wp2
          repeat (go_quiet (fail); try go_wp2)
          go_roundg k2
          case measure => have := HJ2.out; have := HK2.out; omega
          case rel => exact ⟨(wrap64 (x5_2 + 1)), ez, H', ⟨by have := HJ2.out; have := HK2.out; omega⟩, ⟨mBK BK619.out⟩, ⟨mBK BK620.out⟩, ⟨mBs HB.out⟩⟩
        ·rw [if_neg c56] at H
         exact absurd H (by simp)
       ·rw [if_neg c55] at H
        exact absurd H (by simp)
      ·rw [if_neg c54] at H
       have c54b0 : decide (x5_2 < (l0_11.length : Int)) = false := decide_eq_false c54
       clear c54
       obtain rfl := Option.some.inj H
       have hnb64 := NB619_620.out
       have hnc64 := NB620_619.out
       have hcz65_0 : wr.cell? ⟨gb619, 0, none⟩ = some (.int .i64 a0_0) := (blk_cell BK619.out 0).trans rfl
       have hcz65_1 : wr.cell? ⟨gb619, 1, none⟩ = some (.int .i64 a0_1) := (blk_cell BK619.out 1).trans rfl
       have hcz65_2 : wr.cell? ⟨gb619, 2, none⟩ = some (.int .i64 a0_2) := (blk_cell BK619.out 2).trans rfl
       have hcz65_3 : wr.cell? ⟨gb619, 3, none⟩ = some (.int .i64 a0_3) := (blk_cell BK619.out 3).trans rfl
       have hcz65_4 : wr.cell? ⟨gb619, 4, none⟩ = some (.int .i64 a0_4) := (blk_cell BK619.out 4).trans rfl
       have hcz65_5 : wr.cell? ⟨gb619, 5, none⟩ = some (.int .i64 a0_5) := (blk_cell BK619.out 5).trans rfl
       have hcz65_6 : wr.cell? ⟨gb619, 6, none⟩ = some (.int .i64 a0_6) := (blk_cell BK619.out 6).trans rfl
       have hcz65_7 : wr.cell? ⟨gb619, 7, none⟩ = some (.int .i64 a0_7) := (blk_cell BK619.out 7).trans rfl
       have hcz65_8 : wr.cell? ⟨gb619, 8, none⟩ = some (.int .i64 a0_8) := (blk_cell BK619.out 8).trans rfl
       have hcz65_9 : wr.cell? ⟨gb619, 9, none⟩ = some (.int .i64 a0_9) := (blk_cell BK619.out 9).trans rfl
       have hcz65_10 : wr.cell? ⟨gb619, 10, none⟩ = some (.int .i64 a0_10) := (blk_cell BK619.out 10).trans rfl
       have hcz65_11 : wr.cell? ⟨gb619, 11, none⟩ = some (.slice A0_11 l0_11.length c0_11) := (blk_cell BK619.out 11).trans rfl
       have hfz65_0 := blk_frozen BK619.out 0
       have hfz65_1 := blk_frozen BK619.out 1
       have hfz65_2 := blk_frozen BK619.out 2
       have hfz65_3 := blk_frozen BK619.out 3
       have hfz65_4 := blk_frozen BK619.out 4
       have hfz65_5 := blk_frozen BK619.out 5
       have hfz65_6 := blk_frozen BK619.out 6
       have hfz65_7 := blk_frozen BK619.out 7
       have hfz65_8 := blk_frozen BK619.out 8
       have hfz65_9 := blk_frozen BK619.out 9
       have hfz65_10 := blk_frozen BK619.out 10
       have hfz65_11 := blk_frozen BK619.out 11
       go_wp2
       repeat (go_quiet (fail); try go_wp2)
       go_ret
       exact ⟨by first | rfl | (simp [errW_none, errW_some] <;> rfl) | (simp [*, errW_none, errW_some] <;> rfl), by repeat (first | (with_reducible first | exact HB.out | apply below_alloc | apply pw_below_drewN | apply below_drew1 | refine below_set ?_ GE619.out | refine below_set ?_ GE620.out) | exact HB.out)⟩

end Go.Proofs.Ytjmkpcnekghmhaa.PAll
end
