/- Words, plain functions and contracts of the functions that the law of this claim reaches; no conditions. -/
import Derived.Test.YtkhfgflcanmefaaBJobReads4
section
namespace Go.Proofs.Ytkhfgflcanmefaa.PAll
open Go.RowKit Go.Proofs.YtkhfgflcanmefaaW.PrintWords Go.Proofs.YtkhfgflcanmefaaW.PrintLast Go.Proofs.YtkhfgflcanmefaaW.PrintMore
attribute [local go_sem] max2_int min2_int max_two min_two max_three min_three max_four min_four   -- for this text's walks alone
set_option linter.unusedVariables false
set_option linter.unusedSimpArgs false

mutual
def prebendref19_Due.l0 : Nat → List (S32) → Int → List Int → Int → Option (List Int)
 | 0, _, _, _, _ => none
 | k + 1, x0, x1, x5, x6 => if x6 < (x0.length : Int) then (if 0 ≤ x6 then (if ((rd_T32 x0 x6).f7) = 3 then (prebendref19_Due.j1 k x0 x1 x5 x6 (decide ((wrap64 (((rd_T32 x0 x6).f8) + ((rd_T32 x0 x6).f3))) > x1)) ((rd_T32 x0 x6).f0) ((rd_T32 x0 x6).f1) ((rd_T32 x0 x6).f2) ((rd_T32 x0 x6).f3) ((rd_T32 x0 x6).f4) ((rd_T32 x0 x6).f5) ((rd_T32 x0 x6).f6) ((rd_T32 x0 x6).f7) ((rd_T32 x0 x6).f8) ((rd_T32 x0 x6).f9) ((rd_T32 x0 x6).f10) ((rd_T32 x0 x6).f11)) else (prebendref19_Due.j1 k x0 x1 x5 x6 true ((rd_T32 x0 x6).f0) ((rd_T32 x0 x6).f1) ((rd_T32 x0 x6).f2) ((rd_T32 x0 x6).f3) ((rd_T32 x0 x6).f4) ((rd_T32 x0 x6).f5) ((rd_T32 x0 x6).f6) ((rd_T32 x0 x6).f7) ((rd_T32 x0 x6).f8) ((rd_T32 x0 x6).f9) ((rd_T32 x0 x6).f10) ((rd_T32 x0 x6).f11))) else (none)) else (prebendref19_Due.l2 k x0 x5 (([] : List Int)) 0)
def prebendref19_Due.j1 : Nat → List (S32) → Int → List Int → Int → Bool → Int → Int → Int → Int → Int → Int → Int → Int → Int → Int → Int → SH → Option (List Int)
 | 0, _, _, _, _, _, _, _, _, _, _, _, _, _, _, _, _, _ => none
 | k + 1, x0, x1, x5, x6, x34, x394000, x394001, x394002, x394003, x394004, x394005, x394006, x394007, x394008, x394009, x394010, x394011 => if x34 = true then (prebendref19_Due.l0 k x0 x1 x5 (wrap64 (x6 + 1))) else (prebendref19_Due.l1 k x0 x1 x5 x6 (x5.length : Int) x394000 x394001 x394002 x394003 x394004 x394005 x394006 x394007 x394008 x394009 x394010 x394011)
def prebendref19_Due.l1 : Nat → List (S32) → Int → List Int → Int → Int → Int → Int → Int → Int → Int → Int → Int → Int → Int → Int → Int → SH → Option (List Int)
 | 0, _, _, _, _, _, _, _, _, _, _, _, _, _, _, _, _, _ => none
 | k + 1, x0, x1, x5, x6, x8, x394000, x394001, x394002, x394003, x394004, x394005, x394006, x394007, x394008, x394009, x394010, x394011 => if x8 > 0 then (if 0 ≤ (wrap64 (x8 - 1)) then (if (wrap64 (x8 - 1)) < (x5.length : Int) then (if 0 ≤ (rd x5 (wrap64 (x8 - 1))) then (if (rd x5 (wrap64 (x8 - 1))) < (x0.length : Int) then (if (wrap64 (((rd_T32 x0 (rd x5 (wrap64 (x8 - 1)))).f8) + ((rd_T32 x0 (rd x5 (wrap64 (x8 - 1)))).f3))) < (wrap64 (x394008 + x394003)) then ((some (([] : List Int) : List Int)).bind fun y397 => (if 0 ≤ x8 then (if x8 ≤ (x5.length : Int) then ((some (x5.take (x8 : Int).toNat : List Int)).bind fun y400 => (if y397.length + y400.length < 17592186044416 then ((some (y397 ++ y400 : List Int)).bind fun y404 => ((some (([x6] : List Int) : List Int)).bind fun y407 => (if y404.length + y407.length < 17592186044416 then ((some (y404 ++ y407 : List Int)).bind fun y410 => ((some (x5.drop (x8 : Int).toNat : List Int)).bind fun y413 => (if y410.length + y413.length < 17592186044416 then (prebendref19_Due.l0 k x0 x1 (y410 ++ y413) (wrap64 (x6 + 1))) else (none)))) else (none)))) else (none))) else (none)) else (none))) else (if (wrap64 (((rd_T32 x0 (rd x5 (wrap64 (x8 - 1)))).f8) + ((rd_T32 x0 (rd x5 (wrap64 (x8 - 1)))).f3))) = (wrap64 (x394008 + x394003)) then (if ((rd_T32 x0 (rd x5 (wrap64 (x8 - 1)))).f0) ≤ x394000 then ((some (([] : List Int) : List Int)).bind fun y420 => (if 0 ≤ x8 then (if x8 ≤ (x5.length : Int) then ((some (x5.take (x8 : Int).toNat : List Int)).bind fun y423 => (if y420.length + y423.length < 17592186044416 then ((some (y420 ++ y423 : List Int)).bind fun y427 => ((some (([x6] : List Int) : List Int)).bind fun y430 => (if y427.length + y430.length < 17592186044416 then ((some (y427 ++ y430 : List Int)).bind fun y433 => ((some (x5.drop (x8 : Int).toNat : List Int)).bind fun y436 => (if y433.length + y436.length < 17592186044416 then (prebendref19_Due.l0 k x0 x1 (y433 ++ y436) (wrap64 (x6 + 1))) else (none)))) else (none)))) else (none))) else (none)) else (none))) else (prebendref19_Due.l1 k x0 x1 x5 x6 (wrap64 (x8 - 1)) x394000 x394001 x394002 x394003 x394004 x394005 x394006 x394007 x394008 x394009 x394010 x394011)) else (prebendref19_Due.l1 k x0 x1 x5 x6 (wrap64 (x8 - 1)) x394000 x394001 x394002 x394003 x394004 x394005 x394006 x394007 x394008 x394009 x394010 x394011))) else (none)) else (none)) else (none)) else (none)) else ((some (([] : List Int) : List Int)).bind fun y443 => (if 0 ≤ x8 then (if x8 ≤ (x5.length : Int) then ((some (x5.take (x8 : Int).toNat : List Int)).bind fun y446 => (if y443.length + y446.length < 17592186044416 then ((some (y443 ++ y446 : List Int)).bind fun y450 => ((some (([x6] : List Int) : List Int)).bind fun y453 => (if y450.length + y453.length < 17592186044416 then ((some (y450 ++ y453 : List Int)).bind fun y456 => ((some (x5.drop (x8 : Int).toNat : List Int)).bind fun y459 => (if y456.length + y459.length < 17592186044416 then (prebendref19_Due.l0 k x0 x1 (y456 ++ y459) (wrap64 (x6 + 1))) else (none)))) else (none)))) else (none))) else (none)) else (none)))
def prebendref19_Due.l2 : Nat → List (S32) → List Int → List Int → Int → Option (List Int)
 | 0, _, _, _, _ => none
 | k + 1, x0, x5, x10, x11 => if x11 < (x5.length : Int) then (if 0 ≤ x11 then (if 0 ≤ (rd x5 x11) then (if (rd x5 x11) < (x0.length : Int) then ((some (([(rd_T32 x0 (rd x5 x11)).f0] : List Int) : List Int)).bind fun y471 => (if x10.length + y471.length < 17592186044416 then (prebendref19_Due.l2 k x0 x5 (x10 ++ y471) (wrap64 (x11 + 1))) else (none))) else (none)) else (none)) else (none)) else (some x10)
end
def prebendref19_Due.f (k : Nat) (l0 : List (S32)) (a1 : Int) : Option (List Int) := prebendref19_Due.l0 k l0 a1 (([] : List Int)) 0
theorem prebendref19_Due.mono_l : ∀ k, (∀ y0 y1 y2 y3, LeO (prebendref19_Due.l0 k y0 y1 y2 y3) (prebendref19_Due.l0 (k + 1) y0 y1 y2 y3)) ∧ (∀ y0 y1 y2 y3 y4 y5 y6 y7 y8 y9 y10 y11 y12 y13 y14 y15 y16, LeO (prebendref19_Due.j1 k y0 y1 y2 y3 y4 y5 y6 y7 y8 y9 y10 y11 y12 y13 y14 y15 y16) (prebendref19_Due.j1 (k + 1) y0 y1 y2 y3 y4 y5 y6 y7 y8 y9 y10 y11 y12 y13 y14 y15 y16)) ∧ (∀ y0 y1 y2 y3 y4 y5 y6 y7 y8 y9 y10 y11 y12 y13 y14 y15 y16, LeO (prebendref19_Due.l1 k y0 y1 y2 y3 y4 y5 y6 y7 y8 y9 y10 y11 y12 y13 y14 y15 y16) (prebendref19_Due.l1 (k + 1) y0 y1 y2 y3 y4 y5 y6 y7 y8 y9 y10 y11 y12 y13 y14 y15 y16)) ∧ (∀ y0 y1 y2 y3, LeO (prebendref19_Due.l2 k y0 y1 y2 y3) (prebendref19_Due.l2 (k + 1) y0 y1 y2 y3))
 | 0 => ⟨fun _ _ _ _ r h => by simp [prebendref19_Due.l0] at h, fun _ _ _ _ _ _ _ _ _ _ _ _ _ _ _ _ _ r h => by simp [prebendref19_Due.j1] at h, fun _ _ _ _ _ _ _ _ _ _ _ _ _ _ _ _ _ r h => by simp [prebendref19_Due.l1] at h, fun _ _ _ _ r h => by simp [prebendref19_Due.l2] at h⟩
 | k + 1 => by
  obtain ⟨ih0, ih1, ih2, ih3⟩ := prebendref19_Due.mono_l k
  refine ⟨?_, ?_, ?_, ?_⟩
  ·intro y0 y1 y2 y3
   unfold prebendref19_Due.l0
   repeat' first
   | (with_reducible exact ih0 _ _ _ _)
   | (with_reducible exact ih1 _ _ _ _ _ _ _ _ _ _ _ _ _ _ _ _ _)
   | (with_reducible exact ih2 _ _ _ _ _ _ _ _ _ _ _ _ _ _ _ _ _)
   | (with_reducible exact ih3 _ _ _ _)
   | (with_reducible exact LeO.refl _)
   | (with_reducible exact LeO.none _)
   | (with_reducible refine LeO.ite ?_ ?_)
   | (with_reducible refine LeO.bind ?_ (fun _ => ?_))
   | exact ih0 _ _ _ _
   | exact ih1 _ _ _ _ _ _ _ _ _ _ _ _ _ _ _ _ _
   | exact ih2 _ _ _ _ _ _ _ _ _ _ _ _ _ _ _ _ _
   | exact ih3 _ _ _ _
   | exact LeO.none _
   | refine LeO.ite ?_ ?_
   | refine LeO.bind ?_ (fun _ => ?_)
  ·intro y0 y1 y2 y3 y4 y5 y6 y7 y8 y9 y10 y11 y12 y13 y14 y15 y16
   unfold prebendref19_Due.j1
   repeat' first
   | (with_reducible exact ih0 _ _ _ _)
   | (with_reducible exact ih1 _ _ _ _ _ _ _ _ _ _ _ _ _ _ _ _ _)
   | (with_reducible exact ih2 _ _ _ _ _ _ _ _ _ _ _ _ _ _ _ _ _)
   | (with_reducible exact ih3 _ _ _ _)
   | (with_reducible exact LeO.refl _)
   | (with_reducible exact LeO.none _)
   | (with_reducible refine LeO.ite ?_ ?_)
   | (with_reducible refine LeO.bind ?_ (fun _ => ?_))
   | exact ih0 _ _ _ _
   | exact ih1 _ _ _ _ _ _ _ _ _ _ _ _ _ _ _ _ _
   | exact ih2 _ _ _ _ _ _ _ _ _ _ _ _ _ _ _ _ _
   | exact ih3 _ _ _ _
   | exact LeO.none _
   | refine LeO.ite ?_ ?_
   | refine LeO.bind ?_ (fun _ => ?_)
  ·intro y0 y1 y2 y3 y4 y5 y6 y7 y8 y9 y10 y11 y12 y13 y14 y15 y16
   unfold prebendref19_Due.l1
   repeat' first
   | (with_reducible exact ih0 _ _ _ _)
   | (with_reducible exact ih1 _ _ _ _ _ _ _ _ _ _ _ _ _ _ _ _ _)
   | (with_reducible exact ih2 _ _ _ _ _ _ _ _ _ _ _ _ _ _ _ _ _)
   | (with_reducible exact ih3 _ _ _ _)
   | (with_reducible exact LeO.refl _)
   | (with_reducible exact LeO.none _)
   | (with_reducible refine LeO.ite ?_ ?_)
   | (with_reducible refine LeO.bind ?_ (fun _ => ?_))
   | exact ih0 _ _ _ _
   | exact ih1 _ _ _ _ _ _ _ _ _ _ _ _ _ _ _ _ _
   | exact ih2 _ _ _ _ _ _ _ _ _ _ _ _ _ _ _ _ _
   | exact ih3 _ _ _ _
   | exact LeO.none _
   | refine LeO.ite ?_ ?_
   | refine LeO.bind ?_ (fun _ => ?_)
  ·intro y0 y1 y2 y3
   unfold prebendref19_Due.l2
   repeat' first
   | (with_reducible exact ih0 _ _ _ _)
   | (with_reducible exact ih1 _ _ _ _ _ _ _ _ _ _ _ _ _ _ _ _ _)
   | (with_reducible exact ih2 _ _ _ _ _ _ _ _ _ _ _ _ _ _ _ _ _)
   | (with_reducible exact ih3 _ _ _ _)
   | (with_reducible exact LeO.refl _)
   | (with_reducible exact LeO.none _)
   | (with_reducible refine LeO.ite ?_ ?_)
   | (with_reducible refine LeO.bind ?_ (fun _ => ?_))
   | exact ih0 _ _ _ _
   | exact ih1 _ _ _ _ _ _ _ _ _ _ _ _ _ _ _ _ _
   | exact ih2 _ _ _ _ _ _ _ _ _ _ _ _ _ _ _ _ _
   | exact ih3 _ _ _ _
   | exact LeO.none _
   | refine LeO.ite ?_ ?_
   | refine LeO.bind ?_ (fun _ => ?_)
theorem prebendref19_Due.mono : ∀ a0 a1 k, LeO (prebendref19_Due.f k a0 a1) (prebendref19_Due.f (k + 1) a0 a1) := by
 intro a0 a1 k
 obtain ⟨ih0, ih1, ih2, ih3⟩ := prebendref19_Due.mono_l k
 unfold prebendref19_Due.f
 repeat' first
   | (with_reducible exact ih0 _ _ _ _)
   | (with_reducible exact ih1 _ _ _ _ _ _ _ _ _ _ _ _ _ _ _ _ _)
   | (with_reducible exact ih2 _ _ _ _ _ _ _ _ _ _ _ _ _ _ _ _ _)
   | (with_reducible exact ih3 _ _ _ _)
   | (with_reducible exact LeO.refl _)
   | (with_reducible exact LeO.none _)
   | (with_reducible refine LeO.ite ?_ ?_)
   | (with_reducible refine LeO.bind ?_ (fun _ => ?_))
   | exact ih0 _ _ _ _
   | exact ih1 _ _ _ _ _ _ _ _ _ _ _ _ _ _ _ _ _
   | exact ih2 _ _ _ _ _ _ _ _ _ _ _ _ _ _ _ _ _
   | exact ih3 _ _ _ _
   | exact LeO.none _
   | refine LeO.ite ?_ ?_
   | refine LeO.bind ?_ (fun _ => ?_)
def prebendref19_Due.T12 : Bool × List (List Nat × List Nat) := (true, [([], []), ([], []), ([], []), ([1, 2], [1, 2]), ([0, 3], [0, 3]), ([], []), ([5], [5]), ([4, 6, 4], [4, 6]), ([], []), ([], []), ([8, 9], [8, 9]), ([7, 10, 7], [7, 10]), ([11, 11, 0, 1, 2, 3, 4, 5, 6, 7, 8, 9, 10, 11], [1, 8, 11])])
def prebendref19_Due.B12 : List Nat := [0, 0, 0, 6, 15, 0, 32, 127, 0, 0, 768, 2047, 4095]
theorem prebendref19_Due.tab12 : rtab .any (opsOf Try.f28 12) = prebendref19_Due.T12 := by kernel_rfl
theorem prebendref19_Due.bits12 : waitsOk prebendref19_Due.T12.2 prebendref19_Due.B12 = true := by kernel_rfl
set_option maxHeartbeats 8000000 in
set_option maxRecDepth 100000 in
theorem prebendref19_Due.calls (k : Nat) (A0 : Option Addr) (c0 : Nat) (l0 : List (S32)) (a1 : Int) (r : List Int) (w : World) (hr0 : Kd.C k32 w A0 l0.length l0) (hc0 : l0.length ≤ c0) (h : prebendref19_Due.f k l0 a1 = some r) :
  Calls Try.prog 28 #[.slice A0 l0.length c0, .int .i64 a1] w fun e w' => ∃ v0_ : Value, e = .returned (v0_) ∧ Kd.R (Kd.int .i64) 3 w' w.heap.size (fun _ => True) v0_ r ∧ Below w.heap.size w w' := by
 have hu32 := Try.underlying32
 have HR0 := Aside0.mk hr0
 have HC0 := Aside0.mk hc0
 clear hr0; clear hc0
 have HB := Aside0.mk (Below.refl w.heap.size w)
 have H : (prebendref19_Due.l0 k l0 a1 (([] : List Int)) 0) = some r := h
 clear h
 obtain ⟨y389, hy389⟩ : ∃ y_ : List Int, y_ = (([] : List Int)) := ⟨_, rfl⟩
 replace H : (prebendref19_Due.l0 k l0 a1 y389 0) = some r := mH hy389 H
 have Ny389 := Aside0.mk hy389
 clear hy389
 have H' := Aside0.mk H
 clear H
 go_enter Try.func28, Try.ntmps28
 go_wp2_with (first | ((with_reducible refine gate_dst (N := 12) rfl ?_); refine Kd.R_lit (Kd.int .i64) _ 3 ?hg (N := 12) ?hd (xs := ([] : List Int)) (inner := []) (ok := fun _ => True) (okp := fun _ => True) ?hr ?hp (fun _ hk => hk) trivial (Below.refl _ _) (Nat.le_refl _) (by simp) ?_; (case hd => rfl); (case hg => rfl); (case hr => first | (go_simp; done) | (go_simp; rfl)); (case hp => exact (Reps.none _ _)); intro v390 w3 ho4 hb hg_ hnew_; clear hg_ hnew_; (first | rw [← Ny389.out] at ho4 | (simp only [Int.reduceToNat] at ho4; rw [← Ny389.out] at ho4)); have n0_ := Aside0.mk (Kd.R_lower ho4 (below_size (mB HB.out))); have n1_ := Aside0.mk (below_step (mB HB.out) hb); clear HB; have HO391 := n0_; have HB := n1_; clear n0_ n1_; clear hb ho4))
 go_loopg [5, 6] k (fun kq v5 v6 w' => ∃ (x5_1 : List Int) (x6_1 : Int), v6 = .int .i64 x6_1 ∧ Aside0 (prebendref19_Due.l0 kq l0 a1 x5_1 x6_1 = some r) ∧ Aside0 (kq ≤ k) ∧ Aside0 (Kd.R (Kd.int .i64) 3 w' w.heap.size (fun _ => True) v5 x5_1) ∧ Aside0 (Below w.heap.size w w'))
 case atStart => exact ⟨(y389), (0), ez, H', ⟨Nat.le_refl _⟩, ⟨mR HO391.out⟩, ⟨mB HB.out⟩⟩
 case round =>
  clear H'
  (try clear c2); (try clear p2)
  obtain ⟨x5_1, x6_1, rfl, HA, HK1, HO_5, HB⟩ := hrel
  cases gk with
  | zero => exact absurd HA.out (by simp [prebendref19_Due.l0])
  | succ k1 =>
   have H := HA.out
   clear HA
   simp only [prebendref19_Due.l0] at H
   by_cases c5 : x6_1 < (l0.length : Int)
   ·rw [if_pos c5] at H
    have c5b0 : decide (x6_1 < (l0.length : Int)) = true := decide_eq_true c5
    clear c5
    by_cases c6 : 0 ≤ x6_1
    ·rw [if_pos c6] at H
     have c6b0 : decide (0 ≤ x6_1) = true := decide_eq_true c6
     clear c6
     have HC7 := Aside0.mk H
     clear H
     have p392 : 0 ≤ (x6_1 : Int) := oda
     have q392 : x6_1 < (l0.length : Int) := oda
     obtain ⟨ad392, e392, hx392_0, hx392_1, hx392_2, hx392_3, hx392_4, hx392_5, hx392_6, hx392_7, hx392_8, hx392_9, hx392_10, hx392_11⟩ := at_T32 HR0.out x6_1 p392 q392
     cases e392
     replace hx392_0 := hs_ HB.out hx392_0
     replace hx392_1 := hs_ HB.out hx392_1
     replace hx392_2 := hs_ HB.out hx392_2
     replace hx392_3 := hs_ HB.out hx392_3
     replace hx392_4 := hs_ HB.out hx392_4
     replace hx392_5 := hs_ HB.out hx392_5
     replace hx392_6 := hs_ HB.out hx392_6
     replace hx392_7 := hs_ HB.out hx392_7
     replace hx392_8 := hs_ HB.out hx392_8
     replace hx392_9 := hs_ HB.out hx392_9
     replace hx392_10 := hs_ HB.out hx392_10
     replace hx392_11 := hs_ HB.out hx392_11
     replace p392 := eq_true p392
     replace q392 := eq_true q392
     go_upto_region 6 with (first | ((with_reducible refine gate_dst (N := 7) rfl ?_); refine box_event ?hg (N := 7) ?hd (cs := #[.int .i64 0, .int .i64 0, .int .i64 0, .int .i64 0, .int .i64 0, .int .i64 0, .int .i64 0, .int .i64 0, .int .i64 0, .int .i64 0, .int .i64 0, .slice none 0 0]) (t := 32) ?hr ?_; (case hd => rfl); (case hg => rfl); (case hr => first | (go_simp; done) | (go_simp; rfl)); intro gb393 hg w8 hbox hb; have n0_ := Aside0.mk (Kd.R_below (mR HO_5.out) hb); have n1_ := Aside0.mk (below_step (mB HB.out) hb); have n2_ := Aside0.mk (hbox); have n3_ := Aside0.mk ((by rw [hg]; exact (below_size (mB HB.out)) : w.heap.size ≤ gb393)); have n4_ := Aside0.mk ((by rw [hg]; exact (below_size (mB HB.out)) : w.heap.size ≤ gb393)); clear HO_5; clear HB; have HO_5 := n0_; have HB := n1_; have BK393 := n2_; have GW393 := n3_; have GE393 := n4_; clear n0_ n1_ n2_ n3_ n4_; clear hb hbox hg; have hcz9_0 : w8.cell? ⟨gb393, 0, none⟩ = some (.int .i64 0) := (blk_cell BK393.out 0).trans rfl; have hcz9_1 : w8.cell? ⟨gb393, 1, none⟩ = some (.int .i64 0) := (blk_cell BK393.out 1).trans rfl; have hcz9_2 : w8.cell? ⟨gb393, 2, none⟩ = some (.int .i64 0) := (blk_cell BK393.out 2).trans rfl; have hcz9_3 : w8.cell? ⟨gb393, 3, none⟩ = some (.int .i64 0) := (blk_cell BK393.out 3).trans rfl; have hcz9_4 : w8.cell? ⟨gb393, 4, none⟩ = some (.int .i64 0) := (blk_cell BK393.out 4).trans rfl; have hcz9_5 : w8.cell? ⟨gb393, 5, none⟩ = some (.int .i64 0) := (blk_cell BK393.out 5).trans rfl; have hcz9_6 : w8.cell? ⟨gb393, 6, none⟩ = some (.int .i64 0) := (blk_cell BK393.out 6).trans rfl; have hcz9_7 : w8.cell? ⟨gb393, 7, none⟩ = some (.int .i64 0) := (blk_cell BK393.out 7).trans rfl; have hcz9_8 : w8.cell? ⟨gb393, 8, none⟩ = some (.int .i64 0) := (blk_cell BK393.out 8).trans rfl; have hcz9_9 : w8.cell? ⟨gb393, 9, none⟩ = some (.int .i64 0) := (blk_cell BK393.out 9).trans rfl; have hcz9_10 : w8.cell? ⟨gb393, 10, none⟩ = some (.int .i64 0) := (blk_cell BK393.out 10).trans rfl; have hcz9_11 : w8.cell? ⟨gb393, 11, none⟩ = some (.slice none 0 0) := (blk_cell BK393.out 11).trans rfl; have hfz9_0 := blk_frozen BK393.out 0; have hfz9_1 := blk_frozen BK393.out 1; have hfz9_2 := blk_frozen BK393.out 2; have hfz9_3 := blk_frozen BK393.out 3; have hfz9_4 := blk_frozen BK393.out 4; have hfz9_5 := blk_frozen BK393.out 5; have hfz9_6 := blk_frozen BK393.out 6; have hfz9_7 := blk_frozen BK393.out 7; have hfz9_8 := blk_frozen BK393.out 8; have hfz9_9 := blk_frozen BK393.out 9; have hfz9_10 := blk_frozen BK393.out 10; have hfz9_11 := blk_frozen BK393.out 11))
     (try simp only [Act.put, List.setIfInBounds_toArray, List.set_cons_zero, List.set_cons_succ])
     go_cut [34] (fun v34 wc => ∃ (kq : Nat) (x34_6 : Bool), v34 = .bool x34_6 ∧ Aside0 (prebendref19_Due.j1 kq l0 a1 x5_1 x6_1 x34_6 ((rd_T32 l0 x6_1).f0) ((rd_T32 l0 x6_1).f1) ((rd_T32 l0 x6_1).f2) ((rd_T32 l0 x6_1).f3) ((rd_T32 l0 x6_1).f4) ((rd_T32 l0 x6_1).f5) ((rd_T32 l0 x6_1).f6) ((rd_T32 l0 x6_1).f7) ((rd_T32 l0 x6_1).f8) ((rd_T32 l0 x6_1).f9) ((rd_T32 l0 x6_1).f10) ((rd_T32 l0 x6_1).f11) = some r) ∧ Aside0 (kq ≤ k1) ∧ Aside0 (Kd.R (Kd.int .i64) 3 wc w.heap.size (fun _ => True) u5 x5_1) ∧ Aside0 (wc.heap[gb393]? = some (.cells (cJ (rd_T32 l0 x6_1)) 32 (0, 0))) ∧ Aside0 (Below w.heap.size w wc))
     case first =>
      have H := HC7.out
      clear HC7
      by_cases c10 : ((rd_T32 l0 x6_1).f7) = 3
      ·rw [if_pos c10] at H
       have c10b0 : (((rd_T32 l0 x6_1).f7) == 3) = true := beq_iff_eq.mpr c10
       have c10b1 : (((rd_T32 l0 x6_1).f7) != 3) = false := bne_eq_false_iff_eq.mpr c10
       clear c10
       (first | rw [c10b0] | (simp only [i64_w, i32_w]; rw [c10b0]) | skip)
       have H' := Aside0.mk H
       clear H
       have hcz11_0 : w8.cell? ⟨gb393, 0, none⟩ = some (.int .i64 0) := (blk_cell BK393.out 0).trans rfl
       have hcz11_1 : w8.cell? ⟨gb393, 1, none⟩ = some (.int .i64 0) := (blk_cell BK393.out 1).trans rfl
       have hcz11_2 : w8.cell? ⟨gb393, 2, none⟩ = some (.int .i64 0) := (blk_cell BK393.out 2).trans rfl
       have hcz11_3 : w8.cell? ⟨gb393, 3, none⟩ = some (.int .i64 0) := (blk_cell BK393.out 3).trans rfl
       have hcz11_4 : w8.cell? ⟨gb393, 4, none⟩ = some (.int .i64 0) := (blk_cell BK393.out 4).trans rfl
       have hcz11_5 : w8.cell? ⟨gb393, 5, none⟩ = some (.int .i64 0) := (blk_cell BK393.out 5).trans rfl
       have hcz11_6 : w8.cell? ⟨gb393, 6, none⟩ = some (.int .i64 0) := (blk_cell BK393.out 6).trans rfl
       have hcz11_7 : w8.cell? ⟨gb393, 7, none⟩ = some (.int .i64 0) := (blk_cell BK393.out 7).trans rfl
       have hcz11_8 : w8.cell? ⟨gb393, 8, none⟩ = some (.int .i64 0) := (blk_cell BK393.out 8).trans rfl
       have hcz11_9 : w8.cell? ⟨gb393, 9, none⟩ = some (.int .i64 0) := (blk_cell BK393.out 9).trans rfl
       have hcz11_10 : w8.cell? ⟨gb393, 10, none⟩ = some (.int .i64 0) := (blk_cell BK393.out 10).trans rfl
       have hcz11_11 : w8.cell? ⟨gb393, 11, none⟩ = some (.slice none 0 0) := (blk_cell BK393.out 11).trans rfl
       have hfz11_0 := blk_frozen BK393.out 0
       have hfz11_1 := blk_frozen BK393.out 1
       have hfz11_2 := blk_frozen BK393.out 2
       have hfz11_3 := blk_frozen BK393.out 3
       have hfz11_4 := blk_frozen BK393.out 4
       have hfz11_5 := blk_frozen BK393.out 5
       have hfz11_6 := blk_frozen BK393.out 6
       have hfz11_7 := blk_frozen BK393.out 7
       have hfz11_8 := blk_frozen BK393.out 8
       have hfz11_9 := blk_frozen BK393.out 9
       have hfz11_10 := blk_frozen BK393.out 10
       have hfz11_11 := blk_frozen BK393.out 11
       go_wp2
       go_meet
       case rel => exact ⟨_, (decide ((wrap64 (((rd_T32 l0 x6_1).f8) + ((rd_T32 l0 x6_1).f3))) > a1)), ez, H', ⟨by have := HK1.out; first | omega | exact Nat.le_refl _⟩, ⟨by (with_reducible repeat (first | apply Kd.R_alloc | apply Kd.R_drewN | apply Kd.R_drew)); exact Kd.R_mono (Kd.R_fa gb393 11 (Kd.R_fa gb393 10 (Kd.R_fa gb393 9 (Kd.R_fa gb393 8 (Kd.R_fa gb393 7 (Kd.R_fa gb393 6 (Kd.R_fa gb393 5 (Kd.R_fa gb393 4 (Kd.R_fa gb393 3 (Kd.R_fa gb393 2 (Kd.R_fa gb393 1 (Kd.R_fa gb393 0 (Kd.R_types HO_5.out BK393.out (by decide)) (.int .i64 ((rd_T32 l0 x6_1).f0))) (.int .i64 ((rd_T32 l0 x6_1).f1))) (.int .i64 ((rd_T32 l0 x6_1).f2))) (.int .i64 ((rd_T32 l0 x6_1).f3))) (.int .i64 ((rd_T32 l0 x6_1).f4))) (.int .i64 ((rd_T32 l0 x6_1).f5))) (.int .i64 ((rd_T32 l0 x6_1).f6))) (.int .i64 ((rd_T32 l0 x6_1).f7))) (.int .i64 ((rd_T32 l0 x6_1).f8))) (.int .i64 ((rd_T32 l0 x6_1).f9))) (.int .i64 ((rd_T32 l0 x6_1).f10))) (.slice ((rd_T32 l0 x6_1).f11).A ((rd_T32 l0 x6_1).f11).n ((rd_T32 l0 x6_1).f11).c)) (fun _ hk => trivial)⟩, ⟨by (with_reducible repeat first | apply blk_drewN | apply blk_drew | apply blk_alloc); refine blk_put (cs := #[.int .i64 ((rd_T32 l0 x6_1).f0), .int .i64 ((rd_T32 l0 x6_1).f1), .int .i64 ((rd_T32 l0 x6_1).f2), .int .i64 ((rd_T32 l0 x6_1).f3), .int .i64 ((rd_T32 l0 x6_1).f4), .int .i64 ((rd_T32 l0 x6_1).f5), .int .i64 ((rd_T32 l0 x6_1).f6), .int .i64 ((rd_T32 l0 x6_1).f7), .int .i64 ((rd_T32 l0 x6_1).f8), .int .i64 ((rd_T32 l0 x6_1).f9), .int .i64 ((rd_T32 l0 x6_1).f10), .slice none 0 0]) ?_ 11 _ rfl; (with_reducible repeat first | apply blk_drewN | apply blk_drew | apply blk_alloc); refine blk_put (cs := #[.int .i64 ((rd_T32 l0 x6_1).f0), .int .i64 ((rd_T32 l0 x6_1).f1), .int .i64 ((rd_T32 l0 x6_1).f2), .int .i64 ((rd_T32 l0 x6_1).f3), .int .i64 ((rd_T32 l0 x6_1).f4), .int .i64 ((rd_T32 l0 x6_1).f5), .int .i64 ((rd_T32 l0 x6_1).f6), .int .i64 ((rd_T32 l0 x6_1).f7), .int .i64 ((rd_T32 l0 x6_1).f8), .int .i64 ((rd_T32 l0 x6_1).f9), .int .i64 0, .slice none 0 0]) ?_ 10 _ rfl; (with_reducible repeat first | apply blk_drewN | apply blk_drew | apply blk_alloc); refine blk_put (cs := #[.int .i64 ((rd_T32 l0 x6_1).f0), .int .i64 ((rd_T32 l0 x6_1).f1), .int .i64 ((rd_T32 l0 x6_1).f2), .int .i64 ((rd_T32 l0 x6_1).f3), .int .i64 ((rd_T32 l0 x6_1).f4), .int .i64 ((rd_T32 l0 x6_1).f5), .int .i64 ((rd_T32 l0 x6_1).f6), .int .i64 ((rd_T32 l0 x6_1).f7), .int .i64 ((rd_T32 l0 x6_1).f8), .int .i64 0, .int .i64 0, .slice none 0 0]) ?_ 9 _ rfl; (with_reducible repeat first | apply blk_drewN | apply blk_drew | apply blk_alloc); refine blk_put (cs := #[.int .i64 ((rd_T32 l0 x6_1).f0), .int .i64 ((rd_T32 l0 x6_1).f1), .int .i64 ((rd_T32 l0 x6_1).f2), .int .i64 ((rd_T32 l0 x6_1).f3), .int .i64 ((rd_T32 l0 x6_1).f4), .int .i64 ((rd_T32 l0 x6_1).f5), .int .i64 ((rd_T32 l0 x6_1).f6), .int .i64 ((rd_T32 l0 x6_1).f7), .int .i64 0, .int .i64 0, .int .i64 0, .slice none 0 0]) ?_ 8 _ rfl; (with_reducible repeat first | apply blk_drewN | apply blk_drew | apply blk_alloc); refine blk_put (cs := #[.int .i64 ((rd_T32 l0 x6_1).f0), .int .i64 ((rd_T32 l0 x6_1).f1), .int .i64 ((rd_T32 l0 x6_1).f2), .int .i64 ((rd_T32 l0 x6_1).f3), .int .i64 ((rd_T32 l0 x6_1).f4), .int .i64 ((rd_T32 l0 x6_1).f5), .int .i64 ((rd_T32 l0 x6_1).f6), .int .i64 0, .int .i64 0, .int .i64 0, .int .i64 0, .slice none 0 0]) ?_ 7 _ rfl; (with_reducible repeat first | apply blk_drewN | apply blk_drew | apply blk_alloc); refine blk_put (cs := #[.int .i64 ((rd_T32 l0 x6_1).f0), .int .i64 ((rd_T32 l0 x6_1).f1), .int .i64 ((rd_T32 l0 x6_1).f2), .int .i64 ((rd_T32 l0 x6_1).f3), .int .i64 ((rd_T32 l0 x6_1).f4), .int .i64 ((rd_T32 l0 x6_1).f5), .int .i64 0, .int .i64 0, .int .i64 0, .int .i64 0, .int .i64 0, .slice none 0 0]) ?_ 6 _ rfl; (with_reducible repeat first | apply blk_drewN | apply blk_drew | apply blk_alloc); refine blk_put (cs := #[.int .i64 ((rd_T32 l0 x6_1).f0), .int .i64 ((rd_T32 l0 x6_1).f1), .int .i64 ((rd_T32 l0 x6_1).f2), .int .i64 ((rd_T32 l0 x6_1).f3), .int .i64 ((rd_T32 l0 x6_1).f4), .int .i64 0, .int .i64 0, .int .i64 0, .int .i64 0, .int .i64 0, .int .i64 0, .slice none 0 0]) ?_ 5 _ rfl; (with_reducible repeat first | apply blk_drewN | apply blk_drew | apply blk_alloc); refine blk_put (cs := #[.int .i64 ((rd_T32 l0 x6_1).f0), .int .i64 ((rd_T32 l0 x6_1).f1), .int .i64 ((rd_T32 l0 x6_1).f2), .int .i64 ((rd_T32 l0 x6_1).f3), .int .i64 0, .int .i64 0, .int .i64 0, .int .i64 0, .int .i64 0, .int .i64 0, .int .i64 0, .slice none 0 0]) ?_ 4 _ rfl; (with_reducible repeat first | apply blk_drewN | apply blk_drew | apply blk_alloc); refine blk_put (cs := #[.int .i64 ((rd_T32 l0 x6_1).f0), .int .i64 ((rd_T32 l0 x6_1).f1), .int .i64 ((rd_T32 l0 x6_1).f2), .int .i64 0, .int .i64 0, .int .i64 0, .int .i64 0, .int .i64 0, .int .i64 0, .int .i64 0, .int .i64 0, .slice none 0 0]) ?_ 3 _ rfl; (with_reducible repeat first | apply blk_drewN | apply blk_drew | apply blk_alloc); refine blk_put (cs := #[.int .i64 ((rd_T32 l0 x6_1).f0), .int .i64 ((rd_T32 l0 x6_1).f1), .int .i64 0, .int .i64 0, .int .i64 0, .int .i64 0, .int .i64 0, .int .i64 0, .int .i64 0, .int .i64 0, .int .i64 0, .slice none 0 0]) ?_ 2 _ rfl; (with_reducible repeat first | apply blk_drewN | apply blk_drew | apply blk_alloc); refine blk_put (cs := #[.int .i64 ((rd_T32 l0 x6_1).f0), .int .i64 0, .int .i64 0, .int .i64 0, .int .i64 0, .int .i64 0, .int .i64 0, .int .i64 0, .int .i64 0, .int .i64 0, .int .i64 0, .slice none 0 0]) ?_ 1 _ rfl; (with_reducible repeat first | apply blk_drewN | apply blk_drew | apply blk_alloc); refine blk_put (cs := #[.int .i64 0, .int .i64 0, .int .i64 0, .int .i64 0, .int .i64 0, .int .i64 0, .int .i64 0, .int .i64 0, .int .i64 0, .int .i64 0, .int .i64 0, .slice none 0 0]) ?_ 0 _ rfl; (with_reducible repeat first | apply blk_drewN | apply blk_drew | apply blk_alloc); exact BK393.out⟩, ⟨mBs HB.out⟩⟩
      ·rw [if_neg c10] at H
       have c10b0 : (((rd_T32 l0 x6_1).f7) == 3) = false := beq_eq_false_iff_ne.mpr c10
       have c10b1 : (((rd_T32 l0 x6_1).f7) != 3) = true := bne_iff_ne.mpr c10
       (first | rw [c10b0] | (simp only [i64_w, i32_w]; rw [c10b0]) | skip)
       have H' := Aside0.mk H
       clear H
       have hcz12_0 : w8.cell? ⟨gb393, 0, none⟩ = some (.int .i64 0) := (blk_cell BK393.out 0).trans rfl
       have hcz12_1 : w8.cell? ⟨gb393, 1, none⟩ = some (.int .i64 0) := (blk_cell BK393.out 1).trans rfl
       have hcz12_2 : w8.cell? ⟨gb393, 2, none⟩ = some (.int .i64 0) := (blk_cell BK393.out 2).trans rfl
       have hcz12_3 : w8.cell? ⟨gb393, 3, none⟩ = some (.int .i64 0) := (blk_cell BK393.out 3).trans rfl
       have hcz12_4 : w8.cell? ⟨gb393, 4, none⟩ = some (.int .i64 0) := (blk_cell BK393.out 4).trans rfl
       have hcz12_5 : w8.cell? ⟨gb393, 5, none⟩ = some (.int .i64 0) := (blk_cell BK393.out 5).trans rfl
       have hcz12_6 : w8.cell? ⟨gb393, 6, none⟩ = some (.int .i64 0) := (blk_cell BK393.out 6).trans rfl
       have hcz12_7 : w8.cell? ⟨gb393, 7, none⟩ = some (.int .i64 0) := (blk_cell BK393.out 7).trans rfl
       have hcz12_8 : w8.cell? ⟨gb393, 8, none⟩ = some (.int .i64 0) := (blk_cell BK393.out 8).trans rfl
       have hcz12_9 : w8.cell? ⟨gb393, 9, none⟩ = some (.int .i64 0) := (blk_cell BK393.out 9).trans rfl
       have hcz12_10 : w8.cell? ⟨gb393, 10, none⟩ = some (.int .i64 0) := (blk_cell BK393.out 10).trans rfl
       have hcz12_11 : w8.cell? ⟨gb393, 11, none⟩ = some (.slice none 0 0) := (blk_cell BK393.out 11).trans rfl
       have hfz12_0 := blk_frozen BK393.out 0
       have hfz12_1 := blk_frozen BK393.out 1
       have hfz12_2 := blk_frozen BK393.out 2
       have hfz12_3 := blk_frozen BK393.out 3
       have hfz12_4 := blk_frozen BK393.out 4
       have hfz12_5 := blk_frozen BK393.out 5
       have hfz12_6 := blk_frozen BK393.out 6
       have hfz12_7 := blk_frozen BK393.out 7
       have hfz12_8 := blk_frozen BK393.out 8
       have hfz12_9 := blk_frozen BK393.out 9
       have hfz12_10 := blk_frozen BK393.out 10
       have hfz12_11 := blk_frozen BK393.out 11
       go_wp2
       go_meet
       case rel => exact ⟨_, (true), ez, H', ⟨by have := HK1.out; first | omega | exact Nat.le_refl _⟩, ⟨by (with_reducible repeat (first | apply Kd.R_alloc | apply Kd.R_drewN | apply Kd.R_drew)); exact Kd.R_mono (Kd.R_fa gb393 11 (Kd.R_fa gb393 10 (Kd.R_fa gb393 9 (Kd.R_fa gb393 8 (Kd.R_fa gb393 7 (Kd.R_fa gb393 6 (Kd.R_fa gb393 5 (Kd.R_fa gb393 4 (Kd.R_fa gb393 3 (Kd.R_fa gb393 2 (Kd.R_fa gb393 1 (Kd.R_fa gb393 0 (Kd.R_types HO_5.out BK393.out (by decide)) (.int .i64 ((rd_T32 l0 x6_1).f0))) (.int .i64 ((rd_T32 l0 x6_1).f1))) (.int .i64 ((rd_T32 l0 x6_1).f2))) (.int .i64 ((rd_T32 l0 x6_1).f3))) (.int .i64 ((rd_T32 l0 x6_1).f4))) (.int .i64 ((rd_T32 l0 x6_1).f5))) (.int .i64 ((rd_T32 l0 x6_1).f6))) (.int .i64 ((rd_T32 l0 x6_1).f7))) (.int .i64 ((rd_T32 l0 x6_1).f8))) (.int .i64 ((rd_T32 l0 x6_1).f9))) (.int .i64 ((rd_T32 l0 x6_1).f10))) (.slice ((rd_T32 l0 x6_1).f11).A ((rd_T32 l0 x6_1).f11).n ((rd_T32 l0 x6_1).f11).c)) (fun _ hk => trivial)⟩, ⟨by (with_reducible repeat first | apply blk_drewN | apply blk_drew | apply blk_alloc); refine blk_put (cs := #[.int .i64 ((rd_T32 l0 x6_1).f0), .int .i64 ((rd_T32 l0 x6_1).f1), .int .i64 ((rd_T32 l0 x6_1).f2), .int .i64 ((rd_T32 l0 x6_1).f3), .int .i64 ((rd_T32 l0 x6_1).f4), .int .i64 ((rd_T32 l0 x6_1).f5), .int .i64 ((rd_T32 l0 x6_1).f6), .int .i64 ((rd_T32 l0 x6_1).f7), .int .i64 ((rd_T32 l0 x6_1).f8), .int .i64 ((rd_T32 l0 x6_1).f9), .int .i64 ((rd_T32 l0 x6_1).f10), .slice none 0 0]) ?_ 11 _ rfl; (with_reducible repeat first | apply blk_drewN | apply blk_drew | apply blk_alloc); refine blk_put (cs := #[.int .i64 ((rd_T32 l0 x6_1).f0), .int .i64 ((rd_T32 l0 x6_1).f1), .int .i64 ((rd_T32 l0 x6_1).f2), .int .i64 ((rd_T32 l0 x6_1).f3), .int .i64 ((rd_T32 l0 x6_1).f4), .int .i64 ((rd_T32 l0 x6_1).f5), .int .i64 ((rd_T32 l0 x6_1).f6), .int .i64 ((rd_T32 l0 x6_1).f7), .int .i64 ((rd_T32 l0 x6_1).f8), .int .i64 ((rd_T32 l0 x6_1).f9), .int .i64 0, .slice none 0 0]) ?_ 10 _ rfl; (with_reducible repeat first | apply blk_drewN | apply blk_drew | apply blk_alloc); refine blk_put (cs := #[.int .i64 ((rd_T32 l0 x6_1).f0), .int .i64 ((rd_T32 l0 x6_1).f1), .int .i64 ((rd_T32 l0 x6_1).f2), .int .i64 ((rd_T32 l0 x6_1).f3), .int .i64 ((rd_T32 l0 x6_1).f4), .int .i64 ((rd_T32 l0 x6_1).f5), .int .i64 ((rd_T32 l0 x6_1).f6), .int .i64 ((rd_T32 l0 x6_1).f7), .int .i64 ((rd_T32 l0 x6_1).f8), .int .i64 0, .int .i64 0, .slice none 0 0]) ?_ 9 _ rfl; (with_reducible repeat first | apply blk_drewN | apply blk_drew | apply blk_alloc); refine blk_put (cs := #[.int .i64 ((rd_T32 l0 x6_1).f0), .int .i64 ((rd_T32 l0 x6_1).f1), .int .i64 ((rd_T32 l0 x6_1).f2), .int .i64 ((rd_T32 l0 x6_1).f3), .int .i64 ((rd_T32 l0 x6_1).f4), .int .i64 ((rd_T32 l0 x6_1).f5), .int .i64 ((rd_T32 l0 x6_1).f6), .int .i64 ((rd_T32 l0 x6_1).f7), .int .i64 0, .int .i64 0, .int .i64 0, .slice none 0 0]) ?_ 8 _ rfl; (with_reducible repeat first | apply blk_drewN | apply blk_drew | apply blk_alloc); refine blk_put (cs := #[.int .i64 ((rd_T32 l0 x6_1).f0), .int .i64 ((rd_T32 l0 x6_1).f1), .int .i64 ((rd_T32 l0 x6_1).f2), .int .i64 ((rd_T32 l0 x6_1).f3), .int .i64 ((rd_T32 l0 x6_1).f4), .int .i64 ((rd_T32 l0 x6_1).f5), .int .i64 ((rd_T32 l0 x6_1).f6), .int .i64 0, .int .i64 0, .int .i64 0, .int .i64 0, .slice none 0 0]) ?_ 7 _ rfl; (with_reducible repeat first | apply blk_drewN | apply blk_drew | apply blk_alloc); refine blk_put (cs := #[.int .i64 ((rd_T32 l0 x6_1).f0), .int .i64 ((rd_T32 l0 x6_1).f1), .int .i64 ((rd_T32 l0 x6_1).f2), .int .i64 ((rd_T32 l0 x6_1).f3), .int .i64 ((rd_T32 l0 x6_1).f4), .int .i64 ((rd_T32 l0 x6_1).f5), .int .i64 0, .int .i64 0, .int .i64 0, .int .i64 0, .int .i64 0, .slice none 0 0]) ?_ 6 _ rfl; (with_reducible repeat first | apply blk_drewN | apply blk_drew | apply blk_alloc); refine blk_put (cs := #[.int .i64 ((rd_T32 l0 x6_1).f0), .int .i64 ((rd_T32 l0 x6_1).f1), .int .i64 ((rd_T32 l0 x6_1).f2), .int .i64 ((rd_T32 l0 x6_1).f3), .int .i64 ((rd_T32 l0 x6_1).f4), .int .i64 0, .int .i64 0, .int .i64 0, .int .i64 0, .int .i64 0, .int .i64 0, .slice none 0 0]) ?_ 5 _ rfl; (with_reducible repeat first | apply blk_drewN | apply blk_drew | apply blk_alloc); refine blk_put (cs := #[.int .i64 ((rd_T32 l0 x6_1).f0), .int .i64 ((rd_T32 l0 x6_1).f1), .int .i64 ((rd_T32 l0 x6_1).f2), .int .i64 ((rd_T32 l0 x6_1).f3), .int .i64 0, .int .i64 0, .int .i64 0, .int .i64 0, .int .i64 0, .int .i64 0, .int .i64 0, .slice none 0 0]) ?_ 4 _ rfl; (with_reducible repeat first | apply blk_drewN | apply blk_drew | apply blk_alloc); refine blk_put (cs := #[.int .i64 ((rd_T32 l0 x6_1).f0), .int .i64 ((rd_T32 l0 x6_1).f1), .int .i64 ((rd_T32 l0 x6_1).f2), .int .i64 0, .int .i64 0, .int .i64 0, .int .i64 0, .int .i64 0, .int .i64 0, .int .i64 0, .int .i64 0, .slice none 0 0]) ?_ 3 _ rfl; (with_reducible repeat first | apply blk_drewN | apply blk_drew | apply blk_alloc); refine blk_put (cs := #[.int .i64 ((rd_T32 l0 x6_1).f0), .int .i64 ((rd_T32 l0 x6_1).f1), .int .i64 0, .int .i64 0, .int .i64 0, .int .i64 0, .int .i64 0, .int .i64 0, .int .i64 0, .int .i64 0, .int .i64 0, .slice none 0 0]) ?_ 2 _ rfl; (with_reducible repeat first | apply blk_drewN | apply blk_drew | apply blk_alloc); refine blk_put (cs := #[.int .i64 ((rd_T32 l0 x6_1).f0), .int .i64 0, .int .i64 0, .int .i64 0, .int .i64 0, .int .i64 0, .int .i64 0, .int .i64 0, .int .i64 0, .int .i64 0, .int .i64 0, .slice none 0 0]) ?_ 1 _ rfl; (with_reducible repeat first | apply blk_drewN | apply blk_drew | apply blk_alloc); refine blk_put (cs := #[.int .i64 0, .int .i64 0, .int .i64 0, .int .i64 0, .int .i64 0, .int .i64 0, .int .i64 0, .int .i64 0, .int .i64 0, .int .i64 0, .int .i64 0, .slice none 0 0]) ?_ 0 _ rfl; (with_reducible repeat first | apply blk_drewN | apply blk_drew | apply blk_alloc); exact BK393.out⟩, ⟨mBs HB.out⟩⟩
     case rest =>
      clear HC7
      (try clear c1); (try clear c2); (try clear p2); (try clear p3); (try clear q3); (try clear hx3); (try clear c5); (try clear c5b0); (try clear c6); (try clear c6b0); (try clear p6); (try clear c10); (try clear c10b0); (try clear c10b1); (try clear hcz11_0 hcz11_1 hcz11_10 hcz11_11 hcz11_2 hcz11_3 hcz11_4 hcz11_5 hcz11_6 hcz11_7 hcz11_8 hcz11_9); (try clear hcz12_0 hcz12_1 hcz12_10 hcz12_11 hcz12_2 hcz12_3 hcz12_4 hcz12_5 hcz12_6 hcz12_7 hcz12_8 hcz12_9); (try clear hcz9_0 hcz9_1 hcz9_10 hcz9_11 hcz9_2 hcz9_3 hcz9_4 hcz9_5 hcz9_6 hcz9_7 hcz9_8 hcz9_9); (try clear hfz11_0 hfz11_1 hfz11_10 hfz11_11 hfz11_2 hfz11_3 hfz11_4 hfz11_5 hfz11_6 hfz11_7 hfz11_8 hfz11_9); (try clear hfz12_0 hfz12_1 hfz12_10 hfz12_11 hfz12_2 hfz12_3 hfz12_4 hfz12_5 hfz12_6 hfz12_7 hfz12_8 hfz12_9); (try clear hfz9_0 hfz9_1 hfz9_10 hfz9_11 hfz9_2 hfz9_3 hfz9_4 hfz9_5 hfz9_6 hfz9_7 hfz9_8 hfz9_9); (try clear hx392_0 hx392_1 hx392_10 hx392_11 hx392_2 hx392_3 hx392_4 hx392_5 hx392_6 hx392_7 hx392_8 hx392_9); (try clear p2); (try clear p392); (try clear q392)
      obtain ⟨kq, x34_6, rfl, HA, HJ6, HO_5, BK393, HB⟩ := hcut
      cases kq with
      | zero => exact absurd HA.out (by simp [prebendref19_Due.j1])
      | succ kj6 =>
       have H := HA.out
       clear HA
       simp only [prebendref19_Due.j1] at H
       by_cases c13 : x34_6 = true
       ·subst c13
        have H1 : (prebendref19_Due.l0 kj6 l0 a1 x5_1 (wrap64 (x6_1 + 1))) = some r := by rw [if_pos rfl] at H; exact H
        clear H
        have H := H1
        clear H1
        have H' := Aside0.mk H
        clear H
        go_wp2
        go_roundg kj6
        case measure => have := HK1.out; have := HJ6.out; omega
        case rel => exact ⟨(x5_1), (wrap64 (x6_1 + 1)), ez, H', ⟨by have := HK1.out; have := HJ6.out; omega⟩, ⟨mR HO_5.out⟩, ⟨mBs HB.out⟩⟩
       ·replace c13 := Bool.eq_false_iff.mpr c13
        subst c13
        have H1 : (prebendref19_Due.l1 kj6 l0 a1 x5_1 x6_1 (x5_1.length : Int) ((rd_T32 l0 x6_1).f0) ((rd_T32 l0 x6_1).f1) ((rd_T32 l0 x6_1).f2) ((rd_T32 l0 x6_1).f3) ((rd_T32 l0 x6_1).f4) ((rd_T32 l0 x6_1).f5) ((rd_T32 l0 x6_1).f6) ((rd_T32 l0 x6_1).f7) ((rd_T32 l0 x6_1).f8) ((rd_T32 l0 x6_1).f9) ((rd_T32 l0 x6_1).f10) ((rd_T32 l0 x6_1).f11)) = some r := by rw [if_neg (show ¬ (false = true) by decide)] at H; exact H
        clear H
        have H := H1
        clear H1
        have H' := Aside0.mk H
        clear H
        obtain ⟨Ao14, co14, eo14⟩ := Kd.R_slice HO_5.out
        subst eo14
        go_wp2
        go_loopg [8] kj6 (fun kq v8 w' => ∃ (x8_3 : Int), v8 = .int .i64 x8_3 ∧ Aside0 (prebendref19_Due.l1 kq l0 a1 x5_1 x6_1 x8_3 ((rd_T32 l0 x6_1).f0) ((rd_T32 l0 x6_1).f1) ((rd_T32 l0 x6_1).f2) ((rd_T32 l0 x6_1).f3) ((rd_T32 l0 x6_1).f4) ((rd_T32 l0 x6_1).f5) ((rd_T32 l0 x6_1).f6) ((rd_T32 l0 x6_1).f7) ((rd_T32 l0 x6_1).f8) ((rd_T32 l0 x6_1).f9) ((rd_T32 l0 x6_1).f10) ((rd_T32 l0 x6_1).f11) = some r) ∧ Aside0 (kq ≤ kj6) ∧ Aside0 (Kd.R (Kd.int .i64) 3 w' w.heap.size (fun _ => True) (.slice Ao14 x5_1.length co14) x5_1) ∧ Aside0 (w'.heap[gb393]? = some (.cells (cJ (rd_T32 l0 x6_1)) 32 (0, 0))) ∧ Aside0 (Below w.heap.size w w'))
        case atStart => exact ⟨((x5_1.length : Int)), ez, H', ⟨Nat.le_refl _⟩, ⟨mR HO_5.out⟩, ⟨mBK BK393.out⟩, ⟨mBs HB.out⟩⟩
        case round =>
         clear H'
         (try clear c1); (try clear c2); (try clear p2); (try clear p3); (try clear q3); (try clear hx3); (try clear c5); (try clear c5b0); (try clear c6); (try clear c6b0); (try clear p6); (try clear c10); (try clear c10b0); (try clear c10b1); (try clear c13); (try clear hcz11_0 hcz11_1 hcz11_10 hcz11_11 hcz11_2 hcz11_3 hcz11_4 hcz11_5 hcz11_6 hcz11_7 hcz11_8 hcz11_9); (try clear hcz12_0 hcz12_1 hcz12_10 hcz12_11 hcz12_2 hcz12_3 hcz12_4 hcz12_5 hcz12_6 hcz12_7 hcz12_8 hcz12_9); (try clear hcz9_0 hcz9_1 hcz9_10 hcz9_11 hcz9_2 hcz9_3 hcz9_4 hcz9_5 hcz9_6 hcz9_7 hcz9_8 hcz9_9); (try clear hfz11_0 hfz11_1 hfz11_10 hfz11_11 hfz11_2 hfz11_3 hfz11_4 hfz11_5 hfz11_6 hfz11_7 hfz11_8 hfz11_9); (try clear hfz12_0 hfz12_1 hfz12_10 hfz12_11 hfz12_2 hfz12_3 hfz12_4 hfz12_5 hfz12_6 hfz12_7 hfz12_8 hfz12_9); (try clear hfz9_0 hfz9_1 hfz9_10 hfz9_11 hfz9_2 hfz9_3 hfz9_4 hfz9_5 hfz9_6 hfz9_7 hfz9_8 hfz9_9); (try clear hx392_0 hx392_1 hx392_10 hx392_11 hx392_2 hx392_3 hx392_4 hx392_5 hx392_6 hx392_7 hx392_8 hx392_9); (try clear p2); (try clear p3); (try clear p392); (try clear p6); (try clear q3); (try clear q392)
         obtain ⟨x8_3, rfl, HA, HK3, HO_5, BK393, HB⟩ := hrel
         cases gk with
         | zero => exact absurd HA.out (by simp [prebendref19_Due.l1])
         | succ k3 =>
          have H := HA.out
          clear HA
          simp only [prebendref19_Due.l1] at H
          by_cases c15 : x8_3 > 0
          ·rw [if_pos c15] at H
           have c15b0 : decide (0 < x8_3) = true := decide_eq_true c15
           clear c15
           obtain ⟨ji16, hji16⟩ : ∃ j_ : Int, (wrap64 (x8_3 - 1)) = j_ := ⟨_, rfl⟩
           replace H : (if 0 ≤ (ji16) then (if (ji16) < (x5_1.length : Int) then (if 0 ≤ (rd x5_1 (ji16)) then (if (rd x5_1 (ji16)) < (l0.length : Int) then (if (wrap64 (((rd_T32 l0 (rd x5_1 (ji16))).f8) + ((rd_T32 l0 (rd x5_1 (ji16))).f3))) < (wrap64 (((rd_T32 l0 x6_1).f8) + ((rd_T32 l0 x6_1).f3))) then ((some (([] : List Int) : List Int)).bind fun y397 => (if 0 ≤ x8_3 then (if x8_3 ≤ (x5_1.length : Int) then ((some (x5_1.take (x8_3 : Int).toNat : List Int)).bind fun y400 => (if y397.length + y400.length < 17592186044416 then ((some (y397 ++ y400 : List Int)).bind fun y404 => ((some (([x6_1] : List Int) : List Int)).bind fun y407 => (if y404.length + y407.length < 17592186044416 then ((some (y404 ++ y407 : List Int)).bind fun y410 => ((some (x5_1.drop (x8_3 : Int).toNat : List Int)).bind fun y413 => (if y410.length + y413.length < 17592186044416 then (prebendref19_Due.l0 k3 l0 a1 (y410 ++ y413) (wrap64 (x6_1 + 1))) else (none)))) else (none)))) else (none))) else (none)) else (none))) else (if (wrap64 (((rd_T32 l0 (rd x5_1 (ji16))).f8) + ((rd_T32 l0 (rd x5_1 (ji16))).f3))) = (wrap64 (((rd_T32 l0 x6_1).f8) + ((rd_T32 l0 x6_1).f3))) then (if ((rd_T32 l0 (rd x5_1 (ji16))).f0) ≤ ((rd_T32 l0 x6_1).f0) then ((some (([] : List Int) : List Int)).bind fun y420 => (if 0 ≤ x8_3 then (if x8_3 ≤ (x5_1.length : Int) then ((some (x5_1.take (x8_3 : Int).toNat : List Int)).bind fun y423 => (if y420.length + y423.length < 17592186044416 then ((some (y420 ++ y423 : List Int)).bind fun y427 => ((some (([x6_1] : List Int) : List Int)).bind fun y430 => (if y427.length + y430.length < 17592186044416 then ((some (y427 ++ y430 : List Int)).bind fun y433 => ((some (x5_1.drop (x8_3 : Int).toNat : List Int)).bind fun y436 => (if y433.length + y436.length < 17592186044416 then (prebendref19_Due.l0 k3 l0 a1 (y433 ++ y436) (wrap64 (x6_1 + 1))) else (none)))) else (none)))) else (none))) else (none)) else (none))) else (prebendref19_Due.l1 k3 l0 a1 x5_1 x6_1 ji16 ((rd_T32 l0 x6_1).f0) ((rd_T32 l0 x6_1).f1) ((rd_T32 l0 x6_1).f2) ((rd_T32 l0 x6_1).f3) ((rd_T32 l0 x6_1).f4) ((rd_T32 l0 x6_1).f5) ((rd_T32 l0 x6_1).f6) ((rd_T32 l0 x6_1).f7) ((rd_T32 l0 x6_1).f8) ((rd_T32 l0 x6_1).f9) ((rd_T32 l0 x6_1).f10) ((rd_T32 l0 x6_1).f11))) else (prebendref19_Due.l1 k3 l0 a1 x5_1 x6_1 ji16 ((rd_T32 l0 x6_1).f0) ((rd_T32 l0 x6_1).f1) ((rd_T32 l0 x6_1).f2) ((rd_T32 l0 x6_1).f3) ((rd_T32 l0 x6_1).f4) ((rd_T32 l0 x6_1).f5) ((rd_T32 l0 x6_1).f6) ((rd_T32 l0 x6_1).f7) ((rd_T32 l0 x6_1).f8) ((rd_T32 l0 x6_1).f9) ((rd_T32 l0 x6_1).f10) ((rd_T32 l0 x6_1).f11)))) else (none)) else (none)) else (none)) else (none)) = some r := by first | (rw [hji16] at H; exact H) | (simp only [hji16] at H ⊢; exact H)
           have hji16w : (IntKind.i64.wrap (x8_3 - 1)) = ji16 := (i64_w _).trans hji16
           by_cases c17 : 0 ≤ (ji16)
           ·rw [if_pos c17] at H
            have c17b0 : decide (0 ≤ (ji16)) = true := decide_eq_true c17
            clear c17
            by_cases c18 : (ji16) < (x5_1.length : Int)
            ·rw [if_pos c18] at H
             have c18b0 : decide ((ji16) < (x5_1.length : Int)) = true := decide_eq_true c18
             clear c18
             by_cases c19 : 0 ≤ (rd x5_1 (ji16))
             ·rw [if_pos c19] at H
              have c19b0 : decide (0 ≤ (rd x5_1 (ji16))) = true := decide_eq_true c19
              clear c19
              by_cases c20 : (rd x5_1 (ji16)) < (l0.length : Int)
              ·rw [if_pos c20] at H
               have c20b0 : decide ((rd x5_1 (ji16)) < (l0.length : Int)) = true := decide_eq_true c20
               clear c20
               by_cases c21 : (wrap64 (((rd_T32 l0 (rd x5_1 (ji16))).f8) + ((rd_T32 l0 (rd x5_1 (ji16))).f3))) < (wrap64 (((rd_T32 l0 x6_1).f8) + ((rd_T32 l0 x6_1).f3)))
               ·rw [if_pos c21] at H
                have c21b0 : decide ((wrap64 (((rd_T32 l0 (rd x5_1 (ji16))).f8) + ((rd_T32 l0 (rd x5_1 (ji16))).f3))) < (wrap64 (((rd_T32 l0 x6_1).f8) + ((rd_T32 l0 x6_1).f3)))) = true := decide_eq_true c21
                clear c21
                obtain ⟨y397, hy397⟩ : ∃ y_ : List Int, y_ = (([] : List Int)) := ⟨_, rfl⟩
                replace H : (if 0 ≤ x8_3 then (if x8_3 ≤ (x5_1.length : Int) then ((some (x5_1.take (x8_3 : Int).toNat : List Int)).bind fun y400 => (if y397.length + y400.length < 17592186044416 then ((some (y397 ++ y400 : List Int)).bind fun y404 => ((some (([x6_1] : List Int) : List Int)).bind fun y407 => (if y404.length + y407.length < 17592186044416 then ((some (y404 ++ y407 : List Int)).bind fun y410 => ((some (x5_1.drop (x8_3 : Int).toNat : List Int)).bind fun y413 => (if y410.length + y413.length < 17592186044416 then (prebendref19_Due.l0 k3 l0 a1 (y410 ++ y413) (wrap64 (x6_1 + 1))) else (none)))) else (none)))) else (none))) else (none)) else (none)) = some r := mH hy397 H
                have Ny397 := Aside0.mk hy397
                clear hy397
                by_cases c22 : 0 ≤ x8_3
                ·rw [if_pos c22] at H
                 have c22b0 := eq_true c22
                 have c22b1 : decide (0 ≤ x8_3) = true := decide_eq_true c22
                 clear c22
                 by_cases c23 : x8_3 ≤ (x5_1.length : Int)
                 ·rw [if_pos c23] at H
                  have c23b0 := eq_true c23
                  have c23b1 : decide (x8_3 ≤ (x5_1.length : Int)) = true := decide_eq_true c23
                  clear c23
                  obtain ⟨y400, hy400⟩ : ∃ y_ : List Int, y_ = (x5_1.take (x8_3 : Int).toNat) := ⟨_, rfl⟩
                  replace H : (if y397.length + y400.length < 17592186044416 then ((some (y397 ++ y400 : List Int)).bind fun y404 => ((some (([x6_1] : List Int) : List Int)).bind fun y407 => (if y404.length + y407.length < 17592186044416 then ((some (y404 ++ y407 : List Int)).bind fun y410 => ((some (x5_1.drop (x8_3 : Int).toNat : List Int)).bind fun y413 => (if y410.length + y413.length < 17592186044416 then (prebendref19_Due.l0 k3 l0 a1 (y410 ++ y413) (wrap64 (x6_1 + 1))) else (none)))) else (none)))) else (none)) = some r := mH hy400 H
                  have Ny400 := Aside0.mk hy400
                  clear hy400
                  by_cases c24 : y397.length + y400.length < 17592186044416
                  ·rw [if_pos c24] at H
                   have LMc24 := Aside0.mk c24
                   clear c24
                   obtain ⟨y404, hy404⟩ : ∃ y_ : List Int, y_ = (y397 ++ y400) := ⟨_, rfl⟩
                   replace H : ((some (([x6_1] : List Int) : List Int)).bind fun y407 => (if y404.length + y407.length < 17592186044416 then ((some (y404 ++ y407 : List Int)).bind fun y410 => ((some (x5_1.drop (x8_3 : Int).toNat : List Int)).bind fun y413 => (if y410.length + y413.length < 17592186044416 then (prebendref19_Due.l0 k3 l0 a1 (y410 ++ y413) (wrap64 (x6_1 + 1))) else (none)))) else (none))) = some r := mH hy404 H
                   have Ny404 := Aside0.mk hy404
                   clear hy404
                   obtain ⟨y407, hy407⟩ : ∃ y_ : List Int, y_ = (([x6_1] : List Int)) := ⟨_, rfl⟩
                   replace H : (if y404.length + y407.length < 17592186044416 then ((some (y404 ++ y407 : List Int)).bind fun y410 => ((some (x5_1.drop (x8_3 : Int).toNat : List Int)).bind fun y413 => (if y410.length + y413.length < 17592186044416 then (prebendref19_Due.l0 k3 l0 a1 (y410 ++ y413) (wrap64 (x6_1 + 1))) else (none)))) else (none)) = some r := mH hy407 H
                   have Ny407 := Aside0.mk hy407
                   clear hy407
                   by_cases c25 : y404.length + y407.length < 17592186044416
                   ·rw [if_pos c25] at H
                    have LMc25 := Aside0.mk c25
                    clear c25
                    obtain ⟨y410, hy410⟩ : ∃ y_ : List Int, y_ = (y404 ++ y407) := ⟨_, rfl⟩
                    replace H : ((some (x5_1.drop (x8_3 : Int).toNat : List Int)).bind fun y413 => (if y410.length + y413.length < 17592186044416 then (prebendref19_Due.l0 k3 l0 a1 (y410 ++ y413) (wrap64 (x6_1 + 1))) else (none))) = some r := mH hy410 H
                    have Ny410 := Aside0.mk hy410
                    clear hy410
                    have c26b0 := eq_true (oda : 0 ≤ x8_3)
                    have c27b0 := eq_true (oda : x8_3 ≤ (x5_1.length : Int))
                    obtain ⟨y413, hy413⟩ : ∃ y_ : List Int, y_ = (x5_1.drop (x8_3 : Int).toNat) := ⟨_, rfl⟩
                    replace H : (if y410.length + y413.length < 17592186044416 then (prebendref19_Due.l0 k3 l0 a1 (y410 ++ y413) (wrap64 (x6_1 + 1))) else (none)) = some r := mH hy413 H
                    have Ny413 := Aside0.mk hy413
                    clear hy413
                    by_cases c28 : y410.length + y413.length < 17592186044416
                    ·rw [if_pos c28] at H
                     have LMc28 := Aside0.mk c28
                     clear c28
                     obtain ⟨y417, hy417⟩ : ∃ y_ : List Int, y_ = (y410 ++ y413) := ⟨_, rfl⟩
                     replace H : (prebendref19_Due.l0 k3 l0 a1 y417 (wrap64 (x6_1 + 1))) = some r := mH hy417 H
                     have Ny417 := Aside0.mk hy417
                     clear hy417
                     have H' := Aside0.mk H
                     clear H
                     have p394 : 0 ≤ ((ji16) : Int) := oda
                     have q394 : (ji16) < (x5_1.length : Int) := oda
                     obtain ⟨ad394, e394, hx394_0⟩ := Kd.at_int (Kd.R_reads' HO_5.out).2.2 (ji16) p394 q394
                     cases e394
                     replace p394 := eq_true p394
                     replace q394 := eq_true q394
                     have p395 : 0 ≤ ((rd x5_1 (ji16)) : Int) := oda
                     have q395 : (rd x5_1 (ji16)) < (l0.length : Int) := oda
                     obtain ⟨ad395, e395, hx395_0, hx395_1, hx395_2, hx395_3, hx395_4, hx395_5, hx395_6, hx395_7, hx395_8, hx395_9, hx395_10, hx395_11⟩ := at_T32 HR0.out (rd x5_1 (ji16)) p395 q395
                     obtain rfl : ad392 = ad395 := (by injection e395)
                     replace hx395_0 := hs_ HB.out hx395_0
                     replace hx395_1 := hs_ HB.out hx395_1
                     replace hx395_2 := hs_ HB.out hx395_2
                     replace hx395_3 := hs_ HB.out hx395_3
                     replace hx395_4 := hs_ HB.out hx395_4
                     replace hx395_5 := hs_ HB.out hx395_5
                     replace hx395_6 := hs_ HB.out hx395_6
                     replace hx395_7 := hs_ HB.out hx395_7
                     replace hx395_8 := hs_ HB.out hx395_8
                     replace hx395_9 := hs_ HB.out hx395_9
                     replace hx395_10 := hs_ HB.out hx395_10
                     replace hx395_11 := hs_ HB.out hx395_11
                     replace p395 := eq_true p395
                     replace q395 := eq_true q395
                     try go_wp2_with (first | ((with_reducible refine gate_dst (N := 9) rfl ?_); refine box_event ?hg (N := 9) ?hd (cs := #[.int .i64 0, .int .i64 0, .int .i64 0, .int .i64 0, .int .i64 0, .int .i64 0, .int .i64 0, .int .i64 0, .int .i64 0, .int .i64 0, .int .i64 0, .slice none 0 0]) (t := 32) ?hr ?_; (case hd => rfl); (case hg => rfl); (case hr => first | (go_simp; done) | (go_simp; rfl)); intro gb396 hg w29 hbox hb; have n0_ := Aside0.mk (Kd.R_below (mR HO_5.out) hb); have n1_ := Aside0.mk (blk_below (g := gb393) (o := .cells (cJ (rd_T32 l0 x6_1)) 32 (0, 0)) (mBK BK393.out) hb); have n2_ := Aside0.mk (below_step (mBs HB.out) hb); have n3_ := Aside0.mk (hbox); have n4_ := Aside0.mk ((by rw [hg]; exact (below_size (mBs HB.out)) : w.heap.size ≤ gb396)); have n5_ := Aside0.mk ((by rw [hg]; exact (below_size (mBs HB.out)) : w.heap.size ≤ gb396)); have n6_ := Aside0.mk ((by rw [hg]; exact Nat.ne_of_lt (blk_lt (g := gb393) (o := .cells (cJ (rd_T32 l0 x6_1)) 32 (0, 0)) (mBK BK393.out)) : gb393 ≠ gb396)); have n7_ := Aside0.mk ((by rw [hg]; exact Nat.ne_of_gt (blk_lt (g := gb393) (o := .cells (cJ (rd_T32 l0 x6_1)) 32 (0, 0)) (mBK BK393.out)) : gb396 ≠ gb393)); clear HO_5; clear BK393; clear HB; have HO_5 := n0_; have BK393 := n1_; have HB := n2_; have BK396 := n3_; have GW396 := n4_; have GE396 := n5_; have NB393_396 := n6_; have NB396_393 := n7_; clear n0_ n1_ n2_ n3_ n4_ n5_ n6_ n7_; clear hb hbox hg; have hnb30 := NB396_393.out; have hnc30 := NB393_396.out; have hcz31_0 : w29.cell? ⟨gb396, 0, none⟩ = some (.int .i64 0) := (blk_cell BK396.out 0).trans rfl; have hcz31_1 : w29.cell? ⟨gb396, 1, none⟩ = some (.int .i64 0) := (blk_cell BK396.out 1).trans rfl; have hcz31_2 : w29.cell? ⟨gb396, 2, none⟩ = some (.int .i64 0) := (blk_cell BK396.out 2).trans rfl; have hcz31_3 : w29.cell? ⟨gb396, 3, none⟩ = some (.int .i64 0) := (blk_cell BK396.out 3).trans rfl; have hcz31_4 : w29.cell? ⟨gb396, 4, none⟩ = some (.int .i64 0) := (blk_cell BK396.out 4).trans rfl; have hcz31_5 : w29.cell? ⟨gb396, 5, none⟩ = some (.int .i64 0) := (blk_cell BK396.out 5).trans rfl; have hcz31_6 : w29.cell? ⟨gb396, 6, none⟩ = some (.int .i64 0) := (blk_cell BK396.out 6).trans rfl; have hcz31_7 : w29.cell? ⟨gb396, 7, none⟩ = some (.int .i64 0) := (blk_cell BK396.out 7).trans rfl; have hcz31_8 : w29.cell? ⟨gb396, 8, none⟩ = some (.int .i64 0) := (blk_cell BK396.out 8).trans rfl; have hcz31_9 : w29.cell? ⟨gb396, 9, none⟩ = some (.int .i64 0) := (blk_cell BK396.out 9).trans rfl; have hcz31_10 : w29.cell? ⟨gb396, 10, none⟩ = some (.int .i64 0) := (blk_cell BK396.out 10).trans rfl; have hcz31_11 : w29.cell? ⟨gb396, 11, none⟩ = some (.slice none 0 0) := (blk_cell BK396.out 11).trans rfl; have hfz31_0 := blk_frozen BK396.out 0; have hfz31_1 := blk_frozen BK396.out 1; have hfz31_2 := blk_frozen BK396.out 2; have hfz31_3 := blk_frozen BK396.out 3; have hfz31_4 := blk_frozen BK396.out 4; have hfz31_5 := blk_frozen BK396.out 5; have hfz31_6 := blk_frozen BK396.out 6; have hfz31_7 := blk_frozen BK396.out 7; have hfz31_8 := blk_frozen BK396.out 8; have hfz31_9 := blk_frozen BK396.out 9; have hfz31_10 := blk_frozen BK396.out 10; have hfz31_11 := blk_frozen BK396.out 11; have hcz32_0 : w29.cell? ⟨gb393, 0, none⟩ = some (.int .i64 ((rd_T32 l0 x6_1).f0)) := (blk_cell BK393.out 0).trans rfl; have hcz32_1 : w29.cell? ⟨gb393, 1, none⟩ = some (.int .i64 ((rd_T32 l0 x6_1).f1)) := (blk_cell BK393.out 1).trans rfl; have hcz32_2 : w29.cell? ⟨gb393, 2, none⟩ = some (.int .i64 ((rd_T32 l0 x6_1).f2)) := (blk_cell BK393.out 2).trans rfl; have hcz32_3 : w29.cell? ⟨gb393, 3, none⟩ = some (.int .i64 ((rd_T32 l0 x6_1).f3)) := (blk_cell BK393.out 3).trans rfl; have hcz32_4 : w29.cell? ⟨gb393, 4, none⟩ = some (.int .i64 ((rd_T32 l0 x6_1).f4)) := (blk_cell BK393.out 4).trans rfl; have hcz32_5 : w29.cell? ⟨gb393, 5, none⟩ = some (.int .i64 ((rd_T32 l0 x6_1).f5)) := (blk_cell BK393.out 5).trans rfl; have hcz32_6 : w29.cell? ⟨gb393, 6, none⟩ = some (.int .i64 ((rd_T32 l0 x6_1).f6)) := (blk_cell BK393.out 6).trans rfl; have hcz32_7 : w29.cell? ⟨gb393, 7, none⟩ = some (.int .i64 ((rd_T32 l0 x6_1).f7)) := (blk_cell BK393.out 7).trans rfl; have hcz32_8 : w29.cell? ⟨gb393, 8, none⟩ = some (.int .i64 ((rd_T32 l0 x6_1).f8)) := (blk_cell BK393.out 8).trans rfl; have hcz32_9 : w29.cell? ⟨gb393, 9, none⟩ = some (.int .i64 ((rd_T32 l0 x6_1).f9)) := (blk_cell BK393.out 9).trans rfl; have hcz32_10 : w29.cell? ⟨gb393, 10, none⟩ = some (.int .i64 ((rd_T32 l0 x6_1).f10)) := (blk_cell BK393.out 10).trans rfl; have hcz32_11 : w29.cell? ⟨gb393, 11, none⟩ = some (.slice ((rd_T32 l0 x6_1).f11).A ((rd_T32 l0 x6_1).f11).n ((rd_T32 l0 x6_1).f11).c) := (blk_cell BK393.out 11).trans rfl; have hfz32_0 := blk_frozen BK393.out 0; have hfz32_1 := blk_frozen BK393.out 1; have hfz32_2 := blk_frozen BK393.out 2; have hfz32_3 := blk_frozen BK393.out 3; have hfz32_4 := blk_frozen BK393.out 4; have hfz32_5 := blk_frozen BK393.out 5; have hfz32_6 := blk_frozen BK393.out 6; have hfz32_7 := blk_frozen BK393.out 7; have hfz32_8 := blk_frozen BK393.out 8; have hfz32_9 := blk_frozen BK393.out 9; have hfz32_10 := blk_frozen BK393.out 10; have hfz32_11 := blk_frozen BK393.out 11))
                     have n0_ : Aside0 (Kd.R (Kd.int .i64) 3 ((((((((((((w29.setCell ⟨gb396, 0, none⟩ (.int .i64 ((rd_T32 l0 (rd x5_1 (ji16))).f0))).setCell ⟨gb396, 1, none⟩ (.int .i64 ((rd_T32 l0 (rd x5_1 (ji16))).f1))).setCell ⟨gb396, 2, none⟩ (.int .i64 ((rd_T32 l0 (rd x5_1 (ji16))).f2))).setCell ⟨gb396, 3, none⟩ (.int .i64 ((rd_T32 l0 (rd x5_1 (ji16))).f3))).setCell ⟨gb396, 4, none⟩ (.int .i64 ((rd_T32 l0 (rd x5_1 (ji16))).f4))).setCell ⟨gb396, 5, none⟩ (.int .i64 ((rd_T32 l0 (rd x5_1 (ji16))).f5))).setCell ⟨gb396, 6, none⟩ (.int .i64 ((rd_T32 l0 (rd x5_1 (ji16))).f6))).setCell ⟨gb396, 7, none⟩ (.int .i64 ((rd_T32 l0 (rd x5_1 (ji16))).f7))).setCell ⟨gb396, 8, none⟩ (.int .i64 ((rd_T32 l0 (rd x5_1 (ji16))).f8))).setCell ⟨gb396, 9, none⟩ (.int .i64 ((rd_T32 l0 (rd x5_1 (ji16))).f9))).setCell ⟨gb396, 10, none⟩ (.int .i64 ((rd_T32 l0 (rd x5_1 (ji16))).f10))).setCell ⟨gb396, 11, none⟩ (.slice ((rd_T32 l0 (rd x5_1 (ji16))).f11).A ((rd_T32 l0 (rd x5_1 (ji16))).f11).n ((rd_T32 l0 (rd x5_1 (ji16))).f11).c)) w.heap.size (fun _ => True) (.slice (some ad394) x5_1.length co14) x5_1) := ⟨by (with_reducible repeat (first | apply Kd.R_alloc | apply Kd.R_drewN | apply Kd.R_drew)); exact Kd.R_mono (Kd.R_fa gb396 11 (Kd.R_fa gb396 10 (Kd.R_fa gb396 9 (Kd.R_fa gb396 8 (Kd.R_fa gb396 7 (Kd.R_fa gb396 6 (Kd.R_fa gb396 5 (Kd.R_fa gb396 4 (Kd.R_fa gb396 3 (Kd.R_fa gb396 2 (Kd.R_fa gb396 1 (Kd.R_fa gb396 0 (Kd.R_types HO_5.out BK396.out (by decide)) (.int .i64 ((rd_T32 l0 (rd x5_1 (ji16))).f0))) (.int .i64 ((rd_T32 l0 (rd x5_1 (ji16))).f1))) (.int .i64 ((rd_T32 l0 (rd x5_1 (ji16))).f2))) (.int .i64 ((rd_T32 l0 (rd x5_1 (ji16))).f3))) (.int .i64 ((rd_T32 l0 (rd x5_1 (ji16))).f4))) (.int .i64 ((rd_T32 l0 (rd x5_1 (ji16))).f5))) (.int .i64 ((rd_T32 l0 (rd x5_1 (ji16))).f6))) (.int .i64 ((rd_T32 l0 (rd x5_1 (ji16))).f7))) (.int .i64 ((rd_T32 l0 (rd x5_1 (ji16))).f8))) (.int .i64 ((rd_T32 l0 (rd x5_1 (ji16))).f9))) (.int .i64 ((rd_T32 l0 (rd x5_1 (ji16))).f10))) (.slice ((rd_T32 l0 (rd x5_1 (ji16))).f11).A ((rd_T32 l0 (rd x5_1 (ji16))).f11).n ((rd_T32 l0 (rd x5_1 (ji16))).f11).c)) (fun _ hk => trivial)⟩
                     have n1_ : Aside0 (((((((((((((w29.setCell ⟨gb396, 0, none⟩ (.int .i64 ((rd_T32 l0 (rd x5_1 (ji16))).f0))).setCell ⟨gb396, 1, none⟩ (.int .i64 ((rd_T32 l0 (rd x5_1 (ji16))).f1))).setCell ⟨gb396, 2, none⟩ (.int .i64 ((rd_T32 l0 (rd x5_1 (ji16))).f2))).setCell ⟨gb396, 3, none⟩ (.int .i64 ((rd_T32 l0 (rd x5_1 (ji16))).f3))).setCell ⟨gb396, 4, none⟩ (.int .i64 ((rd_T32 l0 (rd x5_1 (ji16))).f4))).setCell ⟨gb396, 5, none⟩ (.int .i64 ((rd_T32 l0 (rd x5_1 (ji16))).f5))).setCell ⟨gb396, 6, none⟩ (.int .i64 ((rd_T32 l0 (rd x5_1 (ji16))).f6))).setCell ⟨gb396, 7, none⟩ (.int .i64 ((rd_T32 l0 (rd x5_1 (ji16))).f7))).setCell ⟨gb396, 8, none⟩ (.int .i64 ((rd_T32 l0 (rd x5_1 (ji16))).f8))).setCell ⟨gb396, 9, none⟩ (.int .i64 ((rd_T32 l0 (rd x5_1 (ji16))).f9))).setCell ⟨gb396, 10, none⟩ (.int .i64 ((rd_T32 l0 (rd x5_1 (ji16))).f10))).setCell ⟨gb396, 11, none⟩ (.slice ((rd_T32 l0 (rd x5_1 (ji16))).f11).A ((rd_T32 l0 (rd x5_1 (ji16))).f11).n ((rd_T32 l0 (rd x5_1 (ji16))).f11).c)).heap[gb393]? = some (.cells (cJ (rd_T32 l0 x6_1)) 32 (0, 0))) := ⟨by (with_reducible repeat first | apply blk_drewN | apply blk_drew | apply blk_alloc); refine blk_far ?_ NB393_396.out _; (with_reducible repeat first | apply blk_drewN | apply blk_drew | apply blk_alloc); refine blk_far ?_ NB393_396.out _; (with_reducible repeat first | apply blk_drewN | apply blk_drew | apply blk_alloc); refine blk_far ?_ NB393_396.out _; (with_reducible repeat first | apply blk_drewN | apply blk_drew | apply blk_alloc); refine blk_far ?_ NB393_396.out _; (with_reducible repeat first | apply blk_drewN | apply blk_drew | apply blk_alloc); refine blk_far ?_ NB393_396.out _; (with_reducible repeat first | apply blk_drewN | apply blk_drew | apply blk_alloc); refine blk_far ?_ NB393_396.out _; (with_reducible repeat first | apply blk_drewN | apply blk_drew | apply blk_alloc); refine blk_far ?_ NB393_396.out _; (with_reducible repeat first | apply blk_drewN | apply blk_drew | apply blk_alloc); refine blk_far ?_ NB393_396.out _; (with_reducible repeat first | apply blk_drewN | apply blk_drew | apply blk_alloc); refine blk_far ?_ NB393_396.out _; (with_reducible repeat first | apply blk_drewN | apply blk_drew | apply blk_alloc); refine blk_far ?_ NB393_396.out _; (with_reducible repeat first | apply blk_drewN | apply blk_drew | apply blk_alloc); refine blk_far ?_ NB393_396.out _; (with_reducible repeat first | apply blk_drewN | apply blk_drew | apply blk_alloc); refine blk_far ?_ NB393_396.out _; (with_reducible repeat first | apply blk_drewN | apply blk_drew | apply blk_alloc); exact BK393.out⟩
                     have n2_ : Aside0 (((((((((((((w29.setCell ⟨gb396, 0, none⟩ (.int .i64 ((rd_T32 l0 (rd x5_1 (ji16))).f0))).setCell ⟨gb396, 1, none⟩ (.int .i64 ((rd_T32 l0 (rd x5_1 (ji16))).f1))).setCell ⟨gb396, 2, none⟩ (.int .i64 ((rd_T32 l0 (rd x5_1 (ji16))).f2))).setCell ⟨gb396, 3, none⟩ (.int .i64 ((rd_T32 l0 (rd x5_1 (ji16))).f3))).setCell ⟨gb396, 4, none⟩ (.int .i64 ((rd_T32 l0 (rd x5_1 (ji16))).f4))).setCell ⟨gb396, 5, none⟩ (.int .i64 ((rd_T32 l0 (rd x5_1 (ji16))).f5))).setCell ⟨gb396, 6, none⟩ (.int .i64 ((rd_T32 l0 (rd x5_1 (ji16))).f6))).setCell ⟨gb396, 7, none⟩ (.int .i64 ((rd_T32 l0 (rd x5_1 (ji16))).f7))).setCell ⟨gb396, 8, none⟩ (.int .i64 ((rd_T32 l0 (rd x5_1 (ji16))).f8))).setCell ⟨gb396, 9, none⟩ (.int .i64 ((rd_T32 l0 (rd x5_1 (ji16))).f9))).setCell ⟨gb396, 10, none⟩ (.int .i64 ((rd_T32 l0 (rd x5_1 (ji16))).f10))).setCell ⟨gb396, 11, none⟩ (.slice ((rd_T32 l0 (rd x5_1 (ji16))).f11).A ((rd_T32 l0 (rd x5_1 (ji16))).f11).n ((rd_T32 l0 (rd x5_1 (ji16))).f11).c)).heap[gb396]? = some (.cells (cJ (rd_T32 l0 (rd x5_1 (ji16)))) 32 (0, 0))) := ⟨by (with_reducible repeat first | apply blk_drewN | apply blk_drew | apply blk_alloc); refine blk_put (cs := #[.int .i64 ((rd_T32 l0 (rd x5_1 (ji16))).f0), .int .i64 ((rd_T32 l0 (rd x5_1 (ji16))).f1), .int .i64 ((rd_T32 l0 (rd x5_1 (ji16))).f2), .int .i64 ((rd_T32 l0 (rd x5_1 (ji16))).f3), .int .i64 ((rd_T32 l0 (rd x5_1 (ji16))).f4), .int .i64 ((rd_T32 l0 (rd x5_1 (ji16))).f5), .int .i64 ((rd_T32 l0 (rd x5_1 (ji16))).f6), .int .i64 ((rd_T32 l0 (rd x5_1 (ji16))).f7), .int .i64 ((rd_T32 l0 (rd x5_1 (ji16))).f8), .int .i64 ((rd_T32 l0 (rd x5_1 (ji16))).f9), .int .i64 ((rd_T32 l0 (rd x5_1 (ji16))).f10), .slice none 0 0]) ?_ 11 _ rfl; (with_reducible repeat first | apply blk_drewN | apply blk_drew | apply blk_alloc); refine blk_put (cs := #[.int .i64 ((rd_T32 l0 (rd x5_1 (ji16))).f0), .int .i64 ((rd_T32 l0 (rd x5_1 (ji16))).f1), .int .i64 ((rd_T32 l0 (rd x5_1 (ji16))).f2), .int .i64 ((rd_T32 l0 (rd x5_1 (ji16))).f3), .int .i64 ((rd_T32 l0 (rd x5_1 (ji16))).f4), .int .i64 ((rd_T32 l0 (rd x5_1 (ji16))).f5), .int .i64 ((rd_T32 l0 (rd x5_1 (ji16))).f6), .int .i64 ((rd_T32 l0 (rd x5_1 (ji16))).f7), .int .i64 ((rd_T32 l0 (rd x5_1 (ji16))).f8), .int .i64 ((rd_T32 l0 (rd x5_1 (ji16))).f9), .int .i64 0, .slice none 0 0]) ?_ 10 _ rfl; (with_reducible repeat first | apply blk_drewN | apply blk_drew | apply blk_alloc); refine blk_put (cs := #[.int .i64 ((rd_T32 l0 (rd x5_1 (ji16))).f0), .int .i64 ((rd_T32 l0 (rd x5_1 (ji16))).f1), .int .i64 ((rd_T32 l0 (rd x5_1 (ji16))).f2), .int .i64 ((rd_T32 l0 (rd x5_1 (ji16))).f3), .int .i64 ((rd_T32 l0 (rd x5_1 (ji16))).f4), .int .i64 ((rd_T32 l0 (rd x5_1 (ji16))).f5), .int .i64 ((rd_T32 l0 (rd x5_1 (ji16))).f6), .int .i64 ((rd_T32 l0 (rd x5_1 (ji16))).f7), .int .i64 ((rd_T32 l0 (rd x5_1 (ji16))).f8), .int .i64 0, .int .i64 0, .slice none 0 0]) ?_ 9 _ rfl; (with_reducible repeat first | apply blk_drewN | apply blk_drew | apply blk_alloc); refine blk_put (cs := #[.int .i64 ((rd_T32 l0 (rd x5_1 (ji16))).f0), .int .i64 ((rd_T32 l0 (rd x5_1 (ji16))).f1), .int .i64 ((rd_T32 l0 (rd x5_1 (ji16))).f2), .int .i64 ((rd_T32 l0 (rd x5_1 (ji16))).f3), .int .i64 ((rd_T32 l0 (rd x5_1 (ji16))).f4), .int .i64 ((rd_T32 l0 (rd x5_1 (ji16))).f5), .int .i64 ((rd_T32 l0 (rd x5_1 (ji16))).f6), .int .i64 ((rd_T32 l0 (rd x5_1 (ji16))).f7), .int .i64 0, .int .i64 0, .int .i64 0, .slice none 0 0]) ?_ 8 _ rfl; (with_reducible repeat first | apply blk_drewN | apply blk_drew | apply blk_alloc); refine blk_put (cs := #[.int .i64 ((rd_T32 l0 (rd x5_1 (ji16))).f0), .int .i64 ((rd_T32 l0 (rd x5_1 (ji16))).f1), .int .i64 ((rd_T32 l0 (rd x5_1 (ji16))).f2), .int .i64 ((rd_T32 l0 (rd x5_1 (ji16))).f3), .int .i64 ((rd_T32 l0 (rd x5_1 (ji16))).f4), .int .i64 ((rd_T32 l0 (rd x5_1 (ji16))).f5), .int .i64 ((rd_T32 l0 (rd x5_1 (ji16))).f6), .int .i64 0, .int .i64 0, .int .i64 0, .int .i64 0, .slice none 0 0]) ?_ 7 _ rfl; (with_reducible repeat first | apply blk_drewN | apply blk_drew | apply blk_alloc); refine blk_put (cs := #[.int .i64 ((rd_T32 l0 (rd x5_1 (ji16))).f0), .int .i64 ((rd_T32 l0 (rd x5_1 (ji16))).f1), .int .i64 ((rd_T32 l0 (rd x5_1 (ji16))).f2), .int .i64 ((rd_T32 l0 (rd x5_1 (ji16))).f3), .int .i64 ((rd_T32 l0 (rd x5_1 (ji16))).f4), .int .i64 ((rd_T32 l0 (rd x5_1 (ji16))).f5), .int .i64 0, .int .i64 0, .int .i64 0, .int .i64 0, .int .i64 0, .slice none 0 0]) ?_ 6 _ rfl; (with_reducible repeat first | apply blk_drewN | apply blk_drew | apply blk_alloc); refine blk_put (cs := #[.int .i64 ((rd_T32 l0 (rd x5_1 (ji16))).f0), .int .i64 ((rd_T32 l0 (rd x5_1 (ji16))).f1), .int .i64 ((rd_T32 l0 (rd x5_1 (ji16))).f2), .int .i64 ((rd_T32 l0 (rd x5_1 (ji16))).f3), .int .i64 ((rd_T32 l0 (rd x5_1 (ji16))).f4), .int .i64 0, .int .i64 0, .int .i64 0, .int .i64 0, .int .i64 0, .int .i64 0, .slice none 0 0]) ?_ 5 _ rfl; (with_reducible repeat first | apply blk_drewN | apply blk_drew | apply blk_alloc); refine blk_put (cs := #[.int .i64 ((rd_T32 l0 (rd x5_1 (ji16))).f0), .int .i64 ((rd_T32 l0 (rd x5_1 (ji16))).f1), .int .i64 ((rd_T32 l0 (rd x5_1 (ji16))).f2), .int .i64 ((rd_T32 l0 (rd x5_1 (ji16))).f3), .int .i64 0, .int .i64 0, .int .i64 0, .int .i64 0, .int .i64 0, .int .i64 0, .int .i64 0, .slice none 0 0]) ?_ 4 _ rfl; (with_reducible repeat first | apply blk_drewN | apply blk_drew | apply blk_alloc); refine blk_put (cs := #[.int .i64 ((rd_T32 l0 (rd x5_1 (ji16))).f0), .int .i64 ((rd_T32 l0 (rd x5_1 (ji16))).f1), .int .i64 ((rd_T32 l0 (rd x5_1 (ji16))).f2), .int .i64 0, .int .i64 0, .int .i64 0, .int .i64 0, .int .i64 0, .int .i64 0, .int .i64 0, .int .i64 0, .slice none 0 0]) ?_ 3 _ rfl; (with_reducible repeat first | apply blk_drewN | apply blk_drew | apply blk_alloc); refine blk_put (cs := #[.int .i64 ((rd_T32 l0 (rd x5_1 (ji16))).f0), .int .i64 ((rd_T32 l0 (rd x5_1 (ji16))).f1), .int .i64 0, .int .i64 0, .int .i64 0, .int .i64 0, .int .i64 0, .int .i64 0, .int .i64 0, .int .i64 0, .int .i64 0, .slice none 0 0]) ?_ 2 _ rfl; (with_reducible repeat first | apply blk_drewN | apply blk_drew | apply blk_alloc); refine blk_put (cs := #[.int .i64 ((rd_T32 l0 (rd x5_1 (ji16))).f0), .int .i64 0, .int .i64 0, .int .i64 0, .int .i64 0, .int .i64 0, .int .i64 0, .int .i64 0, .int .i64 0, .int .i64 0, .int .i64 0, .slice none 0 0]) ?_ 1 _ rfl; (with_reducible repeat first | apply blk_drewN | apply blk_drew | apply blk_alloc); refine blk_put (cs := #[.int .i64 0, .int .i64 0, .int .i64 0, .int .i64 0, .int .i64 0, .int .i64 0, .int .i64 0, .int .i64 0, .int .i64 0, .int .i64 0, .int .i64 0, .slice none 0 0]) ?_ 0 _ rfl; (with_reducible repeat first | apply blk_drewN | apply blk_drew | apply blk_alloc); exact BK396.out⟩
                     have n3_ : Aside0 (Below w.heap.size w ((((((((((((w29.setCell ⟨gb396, 0, none⟩ (.int .i64 ((rd_T32 l0 (rd x5_1 (ji16))).f0))).setCell ⟨gb396, 1, none⟩ (.int .i64 ((rd_T32 l0 (rd x5_1 (ji16))).f1))).setCell ⟨gb396, 2, none⟩ (.int .i64 ((rd_T32 l0 (rd x5_1 (ji16))).f2))).setCell ⟨gb396, 3, none⟩ (.int .i64 ((rd_T32 l0 (rd x5_1 (ji16))).f3))).setCell ⟨gb396, 4, none⟩ (.int .i64 ((rd_T32 l0 (rd x5_1 (ji16))).f4))).setCell ⟨gb396, 5, none⟩ (.int .i64 ((rd_T32 l0 (rd x5_1 (ji16))).f5))).setCell ⟨gb396, 6, none⟩ (.int .i64 ((rd_T32 l0 (rd x5_1 (ji16))).f6))).setCell ⟨gb396, 7, none⟩ (.int .i64 ((rd_T32 l0 (rd x5_1 (ji16))).f7))).setCell ⟨gb396, 8, none⟩ (.int .i64 ((rd_T32 l0 (rd x5_1 (ji16))).f8))).setCell ⟨gb396, 9, none⟩ (.int .i64 ((rd_T32 l0 (rd x5_1 (ji16))).f9))).setCell ⟨gb396, 10, none⟩ (.int .i64 ((rd_T32 l0 (rd x5_1 (ji16))).f10))).setCell ⟨gb396, 11, none⟩ (.slice ((rd_T32 l0 (rd x5_1 (ji16))).f11).A ((rd_T32 l0 (rd x5_1 (ji16))).f11).n ((rd_T32 l0 (rd x5_1 (ji16))).f11).c))) := ⟨mBs HB.out⟩
                     (try clear HO_5); (try clear BK393); (try clear BK396); (try clear HB)
                     generalize ((((((((((((w29.setCell ⟨gb396, 0, none⟩ (.int .i64 ((rd_T32 l0 (rd x5_1 (ji16))).f0))).setCell ⟨gb396, 1, none⟩ (.int .i64 ((rd_T32 l0 (rd x5_1 (ji16))).f1))).setCell ⟨gb396, 2, none⟩ (.int .i64 ((rd_T32 l0 (rd x5_1 (ji16))).f2))).setCell ⟨gb396, 3, none⟩ (.int .i64 ((rd_T32 l0 (rd x5_1 (ji16))).f3))).setCell ⟨gb396, 4, none⟩ (.int .i64 ((rd_T32 l0 (rd x5_1 (ji16))).f4))).setCell ⟨gb396, 5, none⟩ (.int .i64 ((rd_T32 l0 (rd x5_1 (ji16))).f5))).setCell ⟨gb396, 6, none⟩ (.int .i64 ((rd_T32 l0 (rd x5_1 (ji16))).f6))).setCell ⟨gb396, 7, none⟩ (.int .i64 ((rd_T32 l0 (rd x5_1 (ji16))).f7))).setCell ⟨gb396, 8, none⟩ (.int .i64 ((rd_T32 l0 (rd x5_1 (ji16))).f8))).setCell ⟨gb396, 9, none⟩ (.int .i64 ((rd_T32 l0 (rd x5_1 (ji16))).f9))).setCell ⟨gb396, 10, none⟩ (.int .i64 ((rd_T32 l0 (rd x5_1 (ji16))).f10))).setCell ⟨gb396, 11, none⟩ (.slice ((rd_T32 l0 (rd x5_1 (ji16))).f11).A ((rd_T32 l0 (rd x5_1 (ji16))).f11).n ((rd_T32 l0 (rd x5_1 (ji16))).f11).c)) = w33 at n0_ n1_ n2_ n3_ ⊢
                     have HO_5 := n0_
                     have BK393 := n1_
                     have BK396 := n2_
                     have HB := n3_
                     clear n0_; clear n1_; clear n2_; clear n3_
                     have n0_ := Aside0.mk (Kd.R_drew HO_5.out)
                     have n1_ := Aside0.mk (blk_drew BK393.out)
                     have n2_ := Aside0.mk (blk_drew BK396.out)
                     have n3_ := Aside0.mk (below_drew1 HB.out)
                     clear HO_5; clear BK393; clear BK396; clear HB
                     have HO_5 := n0_
                     have BK393 := n1_
                     have BK396 := n2_
                     have HB := n3_
                     clear n0_; clear n1_; clear n2_; clear n3_
                     have q35 : (x8_3 : Int) ≤ ((x5_1.length : Int) : Int) := oda
                     obtain ⟨i035, hi035, _, hsz35, _⟩ := info_parts info3
                     have hroom35 : x5_1.length ≤ co14 := (Kd.R_reads' HO_5.out).2.1
                     have hC35 : Kd.C (Kd.int .i64) _ (some ad394) x5_1.length x5_1 := (Kd.R_reads' HO_5.out).2.2
                     have hcut35 := cut_to (P := Try.prog) 24 3 .i64 Try.underlying24 hi035 (some ad394) x5_1.length co14 x8_3 (oda) q35 hroom35
                     have hr35 := Kd.C_take (m := (x8_3 : Int).toNat) hC35 (by omega)
                     have hy35 : y400.length = (x8_3 : Int).toNat := (by rw [Ny400.out, List.length_take]; omega)
                     rw [← Ny400.out] at hr35
                     rw [← hy35] at hcut35
                     have HR403 := Aside0.mk hr35
                     have HC403 := Aside0.mk (show y400.length ≤ co14 from by omega)
                     clear hr35; clear hC35; clear hroom35; clear hi035; clear hsz35
                     have KY35 := Aside0.mk hy35
                     clear hy35
                     have KL35 := Aside0.mk (show (x8_3 : Int).toNat ≤ x5_1.length from by omega)
                     replace q35 := eq_true q35
                     have q36 : (x8_3 : Int) ≤ ((x5_1.length : Int) : Int) := oda
                     obtain ⟨i036, hi036, _, hsz36, _⟩ := info_parts info3
                     have hroom36 : x5_1.length ≤ co14 := (Kd.R_reads' HO_5.out).2.1
                     have hC36 : Kd.C (Kd.int .i64) _ (some ad394) x5_1.length x5_1 := (Kd.R_reads' HO_5.out).2.2
                     have q036 : (0 : Int) ≤ (x8_3 : Int) := oda
                     have hcut36 := cut_from (P := Try.prog) 24 3 .i64 Try.underlying24 hi036 1 hsz36 (some ad394) x5_1.length co14 x8_3 q036 q36
                     have hr36 := Kd.C_drop (m := (x8_3 : Int).toNat) (c := co14) hC36 (by omega) hroom36
                     obtain ⟨A36, hA36⟩ : ∃ A1, A1 = (if co14 = (x8_3 : Int).toNat then (some ad394) else ((some ad394) : Option Addr).map (·.add ((x8_3 : Int).toNat * 1))) := ⟨_, rfl⟩
                     obtain ⟨c36, hc36⟩ : ∃ c1, c1 = co14 - (x8_3 : Int).toNat := ⟨_, rfl⟩
                     have hy36 : y413.length = x5_1.length - (x8_3 : Int).toNat := (by rw [Ny413.out, List.length_drop] <;> omega)
                     rw [show (x5_1).drop (x8_3 : Int).toNat = y413 from Ny413.out.symm] at hr36
                     replace hr36 : Kd.C (Kd.int .i64) _ A36 y413.length y413 := (by rw [hA36]; exact hr36)
                     rw [← hy36, ← hA36, ← hc36] at hcut36
                     have HR416 := Aside0.mk hr36
                     have HC416 := Aside0.mk (show y413.length ≤ c36 from by rw [hy36, hc36]; exact Nat.sub_le_sub_right hroom36 _)
                     clear hr36; clear hC36; clear hroom36; clear hi036; clear hsz36; clear hc36
                     have KY36 := Aside0.mk hy36
                     have KA36 := Aside0.mk hA36
                     clear hy36; clear hA36
                     have KL36 := Aside0.mk (show (x8_3 : Int).toNat ≤ x5_1.length from by omega)
                     replace q36 := eq_true q36
                     refine start_ (n := 13) (S := fun w' => True) (ds := []) #[false, false, false, false, false, false, false, false, false, false, false, false, false] (by kernel_rfl) rfl rfl trivial (fun hHeld => ?_); refine with_tabW prebendref19_Due.tab12 prebendref19_Due.bits12 (fun HT_ HW_ => ?_)
                     generalize w33.drew = w34 at HO_5 BK393 BK396 HB HR403 HR416 hHeld ⊢
                     refine plan_ [(1, 81), (2, 82), (3, 83), (5, 85), (8, 88), (9, 89), (10, 90)] ?_
                     iterate 7 (refine planP_ (v := ?_) (a' := ?_) rfl rfl (any_of HT_.out (by kernel_rfl)) (fun _ _ _ h => h) (Or.inl ⟨by rfl, ?_⟩) ?_ ?_; rotate_left; (intro w'; go_simp; with_reducible rfl); rotate_left; (simp only [Act.put, List.setIfInBounds_toArray, List.set_cons_zero, List.set_cons_succ, i64_w, i32_w]; rfl))
                     refine planEnd_ ?_
                     refine join_ (σ := Value × Value × Value) 3 #[true, true, true, true, true, true, true, false, true, true, true, false, false] (fun s_ => [(80, s_.1), (84, s_.2.1), (86, s_.2.2)]) (fun s_ w' => (Kd.R (Kd.int .i64) 3 w' w.heap.size (fun k_ => some k_ ≠ (s_.2.2 : Value).ownBlock ∧ some k_ ≠ (.slice (some ad394) x5_1.length co14 : Value).ownBlock) s_.2.1 y404) ∧ (Kd.R (Kd.int .i64) 3 w' w.heap.size (fun k_ => some k_ ≠ (s_.2.1 : Value).ownBlock ∧ some k_ ≠ (.slice (some ad394) x5_1.length co14 : Value).ownBlock) s_.2.2 y407) ∧ (Kd.R (Kd.int .i64) 3 w' w.heap.size (fun k_ => some k_ ≠ (s_.2.1 : Value).ownBlock ∧ some k_ ≠ (s_.2.2 : Value).ownBlock) (.slice (some ad394) x5_1.length co14) x5_1) ∧ (Kd.C (Kd.int .i64) w' (some ad394) y400.length y400) ∧ (Kd.C (Kd.int .i64) w' A36 y413.length y413) ∧ (w'.heap[gb393]? = some (.cells (cJ (rd_T32 l0 x6_1)) 32 (0, 0))) ∧ (w'.heap[gb396]? = some (.cells (cJ (rd_T32 l0 (rd x5_1 (ji16)))) 32 (0, 0))) ∧ (Below w.heap.size w w')) ?_ ?_
                     rotate_left
                     ·intro hCont
                      refine two_ (i := 0) (j := 6) (Ni := some 80) (Nj := some 86) #[true, true, true, true, false, true, false, false, true, true, true, false, false] #[false, true, true, true, false, true, true, false, true, true, true, false, false] rfl rfl rfl rfl (two_of HT_.out (by kernel_rfl)) (by decide) (by decide) (fun K hK => ?_) (fun K hK => ?_)
                      ·skip
                       refine Kd.R_lit_step (Kd.int .i64) _ 3 ?hg (N := 80) ?hd (xs := ([] : List Int)) (inner := []) (ok := fun _ => True) (okp := fun _ => True) ?hr ?hp (fun _ hk => hk) trivial (Below.refl _ _) (Nat.le_refl _) (by simp) ?_; (case hd => rfl); (case hg => rfl); (case hr => first | (go_simp; done) | (go_simp; rfl)); (case hp => exact (Reps.none _ _))
                       intro v398 w37 ho38 hb hg_ hnew_
                       clear hg_; clear hnew_
                       (first | rw [← Ny397.out] at ho38 | (simp only [Int.reduceToNat] at ho38; rw [← Ny397.out] at ho38))
                       have n0_ := Aside0.mk (Kd.R_elder' (mR HO_5.out) (Kd.R_base ho38) hb)
                       have n1_ := Aside0.mk (Kd.R_lower (Kd.R_new' ho38 (Kd.R_lt (mR HO_5.out))) (below_size (mBs HB.out)))
                       have n2_ := Aside0.mk (blk_below (g := gb393) (o := .cells (cJ (rd_T32 l0 x6_1)) 32 (0, 0)) (mBK BK393.out) hb)
                       have n3_ := Aside0.mk (blk_below (g := gb396) (o := .cells (cJ (rd_T32 l0 (rd x5_1 (ji16)))) 32 (0, 0)) (mBK BK396.out) hb)
                       have n4_ := Aside0.mk (Kd.C_below (mC HR403.out) hb)
                       have n5_ := Aside0.mk (Kd.C_below (mC HR416.out) hb)
                       have n6_ := Aside0.mk (below_step (mBs HB.out) hb)
                       clear HO_5; clear BK393; clear BK396; clear HR403; clear HR416; clear HB
                       have HO_5 := n0_
                       have HO399 := n1_
                       have BK393 := n2_
                       have BK396 := n3_
                       have HR403 := n4_
                       have HR416 := n5_
                       have HB := n6_
                       clear n0_; clear n1_; clear n2_; clear n3_; clear n4_; clear n5_; clear n6_; clear hb; clear ho38
                       refine hK.out _ _ trivial (fun hHeld => ?_)
                       clear hK; clear K
                       refine norm_ (a' := ?_) ?_ ?_
                       rotate_left
                       ·show Act.put _ (some 80) _ = _
                        simp only [Act.put, List.setIfInBounds_toArray, List.set_cons_zero, List.set_cons_succ, i64_w, i32_w]
                        rfl
                       refine two_ (i := 4) (j := 6) (Ni := some 84) (Nj := some 86) #[true, true, true, true, true, true, false, false, true, true, true, false, false] #[true, true, true, true, false, true, true, false, true, true, true, false, false] rfl rfl rfl rfl (two_of HT_.out (by kernel_rfl)) (by decide) (by decide) (fun K hK => ?_) (fun K hK => ?_)
                       ·skip
                        refine Kd.R_append_rows_step (Kd.int .i64) (w0 := w) w.heap.size (by rfl) (.tmp 80) (.tmp 83) 24 3 (.int .i64 0) 8 rfl Try.underlying24 info3 rfl (by decide) (by omega) v398 y397 y400 _ _ _ (fun k_ => some k_ ≠ (.slice (some ad394) x5_1.length co14 : Value).ownBlock) (fun _ => False) rfl rfl ?aO ?aR (fun _ _ h => h) (fun _ h => h.elim) ?aF ?aB ?aS ?aL ?_
                        (case aR => repeat (first | exact (mC HR403.out) | (with_reducible refine Kd.C_alloc ?_ _) | (with_reducible refine Kd.C_drewN ?_ _) | (with_reducible refine Kd.C_drew ?_)))
                        (case aB => exact (mBs HB.out))
                        (case aF => exact (fun k_ hk => Kd.fresh' (Kd.R_lt (mR HO_5.out)) k_ hk))
                        (case aO => exact (by (with_reducible repeat (first | apply Kd.R_alloc | apply Kd.R_drewN | apply Kd.R_drew)); exact Kd.R_mono HO399.out (fun _ hk => hk.2)))
                        (case aS => exact (below_size (mBs HB.out)))
                        (case aL => have := LMc24.out; omega)
                        intro v405 w39 ho hb hg hat
                        rw [← Ny404.out] at ho
                        have n0_ := Aside0.mk (Kd.R_after (ok := (fun _ => True)) (mR HO_5.out) hg hat)
                        have n1_ := Aside0.mk (blk_grown (g := gb393) (o := .cells (cJ (rd_T32 l0 x6_1)) 32 (0, 0)) (mBK BK393.out) hg (Kd.R_ne HO399.out BK393.out (by decide)))
                        have n2_ := Aside0.mk (blk_grown (g := gb396) (o := .cells (cJ (rd_T32 l0 (rd x5_1 (ji16)))) 32 (0, 0)) (mBK BK396.out) hg (Kd.R_ne HO399.out BK396.out (by decide)))
                        have n3_ := Aside0.mk (hb)
                        have n4_ := Aside0.mk ((show Kd.C (Kd.int .i64) w39 (some ad394) y400.length y400 from by rw [Ny400.out]; exact Kd.C_take (m := (x8_3 : Int).toNat) ((Kd.R_reads' (Kd.R_after (ok := (fun _ => True)) (mR HO_5.out) hg hat)).2.2) KL35.out))
                        have n5_ := Aside0.mk ((show Kd.C (Kd.int .i64) w39 A36 y413.length y413 from by rw [Ny413.out, KA36.out]; exact Kd.C_drop (m := (x8_3 : Int).toNat) (c := co14) ((Kd.R_reads' (Kd.R_after (ok := (fun _ => True)) (mR HO_5.out) hg hat)).2.2) KL36.out ((Kd.R_reads' (Kd.R_after (ok := (fun _ => True)) (mR HO_5.out) hg hat)).2.1)))
                        have n6_ := Aside0.mk (ho)
                        clear HO_5; clear BK393; clear BK396; clear HB; clear HR403; clear HR416; clear HO399
                        have HO_5 := n0_
                        have BK393 := n1_
                        have BK396 := n2_
                        have HB := n3_
                        have HR403 := n4_
                        have HR416 := n5_
                        have HO406 := n6_
                        clear n0_; clear n1_; clear n2_; clear n3_; clear n4_; clear n5_; clear n6_; clear ho; clear hb; clear hg; clear hat
                        refine hK.out _ _ trivial (fun hHeld => ?_)
                        clear hK; clear K
                        refine norm_ (a' := ?_) ?_ ?_
                        rotate_left
                        ·show Act.put _ (some 84) _ = _
                         simp only [Act.put, List.setIfInBounds_toArray, List.set_cons_zero, List.set_cons_succ, i64_w, i32_w]
                         rfl
                        refine one_ (i := 6) (N := some 86) #[true, true, true, true, true, true, true, false, true, true, true, false, false] rfl rfl (one_of HT_.out (by kernel_rfl)) (by decide) (fun K hK => ?_)
                        refine Kd.R_lit_step (Kd.int .i64) _ 3 ?hg (N := 86) ?hd (xs := ([x6_1] : List Int)) (inner := [.int .i64 x6_1]) (ok := fun _ => True) (okp := fun _ => True) ?hr ?hp (fun _ hk => hk) trivial (Below.refl _ _) (Nat.le_refl _) (by simp) ?_; (case hd => rfl); (case hg => rfl); (case hr => first | (go_simp; done) | (go_simp; rfl)); (case hp => exact (Reps.one (show Kd.M (Kd.int .i64) _ _ _ x6_1 [.int .i64 x6_1] from rfl) (Reps.none _ _)))
                        intro v408 w40 ho41 hb hg_ hnew_
                        clear hg_; clear hnew_
                        (first | rw [← Ny407.out] at ho41 | (simp only [Int.reduceToNat] at ho41; rw [← Ny407.out] at ho41))
                        have n0_ := Aside0.mk (Kd.R_elder' (mR HO_5.out) (Kd.R_base ho41) hb)
                        have n1_ := Aside0.mk (Kd.R_elder' (mR HO406.out) (Kd.R_base ho41) hb)
                        have n2_ := Aside0.mk (Kd.R_lower (Kd.R_new' (Kd.R_new' ho41 (Kd.R_lt (mR HO_5.out))) (Kd.R_lt (mR HO406.out))) (below_size (mBs HB.out)))
                        have n3_ := Aside0.mk (blk_below (g := gb393) (o := .cells (cJ (rd_T32 l0 x6_1)) 32 (0, 0)) (mBK BK393.out) hb)
                        have n4_ := Aside0.mk (blk_below (g := gb396) (o := .cells (cJ (rd_T32 l0 (rd x5_1 (ji16)))) 32 (0, 0)) (mBK BK396.out) hb)
                        have n5_ := Aside0.mk (Kd.C_below (mC HR403.out) hb)
                        have n6_ := Aside0.mk (Kd.C_below (mC HR416.out) hb)
                        have n7_ := Aside0.mk (below_step (mBs HB.out) hb)
                        clear HO_5; clear HO406; clear BK393; clear BK396; clear HR403; clear HR416; clear HB
                        have HO_5 := n0_
                        have HO406 := n1_
                        have HO409 := n2_
                        have BK393 := n3_
                        have BK396 := n4_
                        have HR403 := n5_
                        have HR416 := n6_
                        have HB := n7_
                        clear n0_; clear n1_; clear n2_; clear n3_; clear n4_; clear n5_; clear n6_; clear n7_; clear hb; clear ho41
                        refine hK.out _ _ trivial (fun hHeld => ?_)
                        clear hK; clear K
                        refine norm_ (a' := ?_) ?_ ?_
                        rotate_left
                        ·show Act.put _ (some 86) _ = _
                         simp only [Act.put, List.setIfInBounds_toArray, List.set_cons_zero, List.set_cons_succ, i64_w, i32_w]
                         rfl
                        exact norm_ (by simp only [putAll, Act.put, List.setIfInBounds_toArray, List.set_cons_zero, List.set_cons_succ]) (hCont (v398, v405, v408) _ ⟨(by (with_reducible repeat (first | apply Kd.R_alloc | apply Kd.R_drewN | apply Kd.R_drew)); exact Kd.R_mono HO406.out (fun _ hk => ⟨hk.2, hk.1⟩)), (by (with_reducible repeat (first | apply Kd.R_alloc | apply Kd.R_drewN | apply Kd.R_drew)); exact Kd.R_mono HO409.out (fun _ hk => ⟨hk.2, hk.1.2⟩)), (by (with_reducible repeat (first | apply Kd.R_alloc | apply Kd.R_drewN | apply Kd.R_drew)); exact Kd.R_mono HO_5.out (fun _ hk => ⟨hk.1.2, hk.2⟩)), (mC HR403.out), (mC HR416.out), (mBK BK393.out), (mBK BK396.out), (mBs HB.out)⟩)
                       ·skip
                        refine Kd.R_lit_step (Kd.int .i64) _ 3 ?hg (N := 86) ?hd (xs := ([x6_1] : List Int)) (inner := [.int .i64 x6_1]) (ok := fun _ => True) (okp := fun _ => True) ?hr ?hp (fun _ hk => hk) trivial (Below.refl _ _) (Nat.le_refl _) (by simp) ?_; (case hd => rfl); (case hg => rfl); (case hr => first | (go_simp; done) | (go_simp; rfl)); (case hp => exact (Reps.one (show Kd.M (Kd.int .i64) _ _ _ x6_1 [.int .i64 x6_1] from rfl) (Reps.none _ _)))
                        intro v408 w39 ho40 hb hg_ hnew_
                        clear hg_; clear hnew_
                        (first | rw [← Ny407.out] at ho40 | (simp only [Int.reduceToNat] at ho40; rw [← Ny407.out] at ho40))
                        have n0_ := Aside0.mk (Kd.R_elder' (mR HO_5.out) (Kd.R_base ho40) hb)
                        have n1_ := Aside0.mk (Kd.R_elder' (mR HO399.out) (Kd.R_base ho40) hb)
                        have n2_ := Aside0.mk (Kd.R_lower (Kd.R_new' (Kd.R_new' ho40 (Kd.R_lt (mR HO_5.out))) (Kd.R_lt (mR HO399.out))) (below_size (mBs HB.out)))
                        have n3_ := Aside0.mk (blk_below (g := gb393) (o := .cells (cJ (rd_T32 l0 x6_1)) 32 (0, 0)) (mBK BK393.out) hb)
                        have n4_ := Aside0.mk (blk_below (g := gb396) (o := .cells (cJ (rd_T32 l0 (rd x5_1 (ji16)))) 32 (0, 0)) (mBK BK396.out) hb)
                        have n5_ := Aside0.mk (Kd.C_below (mC HR403.out) hb)
                        have n6_ := Aside0.mk (Kd.C_below (mC HR416.out) hb)
                        have n7_ := Aside0.mk (below_step (mBs HB.out) hb)
                        clear HO_5; clear HO399; clear BK393; clear BK396; clear HR403; clear HR416; clear HB
                        have HO_5 := n0_
                        have HO399 := n1_
                        have HO409 := n2_
                        have BK393 := n3_
                        have BK396 := n4_
                        have HR403 := n5_
                        have HR416 := n6_
                        have HB := n7_
                        clear n0_; clear n1_; clear n2_; clear n3_; clear n4_; clear n5_; clear n6_; clear n7_; clear hb; clear ho40
                        refine hK.out _ _ trivial (fun hHeld => ?_)
                        clear hK; clear K
                        refine norm_ (a' := ?_) ?_ ?_
                        rotate_left
                        ·show Act.put _ (some 86) _ = _
                         simp only [Act.put, List.setIfInBounds_toArray, List.set_cons_zero, List.set_cons_succ, i64_w, i32_w]
                         rfl
                        refine one_ (i := 4) (N := some 84) #[true, true, true, true, true, true, true, false, true, true, true, false, false] rfl rfl (one_of HT_.out (by kernel_rfl)) (by decide) (fun K hK => ?_)
                        refine Kd.R_append_rows_step (Kd.int .i64) (w0 := w) w.heap.size (by rfl) (.tmp 80) (.tmp 83) 24 3 (.int .i64 0) 8 rfl Try.underlying24 info3 rfl (by decide) (by omega) v398 y397 y400 _ _ _ (fun k_ => some k_ ≠ (.slice (some ad394) x5_1.length co14 : Value).ownBlock ∧ some k_ ≠ (v408 : Value).ownBlock) (fun _ => False) rfl rfl ?aO ?aR (fun _ _ h => h) (fun _ h => h.elim) ?aF ?aB ?aS ?aL ?_
                        (case aR => repeat (first | exact (mC HR403.out) | (with_reducible refine Kd.C_alloc ?_ _) | (with_reducible refine Kd.C_drewN ?_ _) | (with_reducible refine Kd.C_drew ?_)))
                        (case aB => exact (mBs HB.out))
                        (case aF => exact (fun k_ hk => ⟨Kd.fresh' (Kd.R_lt (mR HO_5.out)) k_ hk, Kd.fresh' (Kd.R_lt (mR HO409.out)) k_ hk⟩))
                        (case aO => exact (by (with_reducible repeat (first | apply Kd.R_alloc | apply Kd.R_drewN | apply Kd.R_drew)); exact Kd.R_mono HO399.out (fun _ hk => ⟨hk.1.2, hk.2⟩)))
                        (case aS => exact (below_size (mBs HB.out)))
                        (case aL => have := LMc24.out; omega)
                        intro v405 w41 ho hb hg hat
                        rw [← Ny404.out] at ho
                        have n0_ := Aside0.mk (Kd.R_after (ok := (fun k_ => some k_ ≠ (v408 : Value).ownBlock)) (by (with_reducible repeat (first | apply Kd.R_alloc | apply Kd.R_drewN | apply Kd.R_drew)); exact Kd.R_mono HO_5.out (fun _ hk => ⟨hk.2, hk.1.2⟩)) hg hat)
                        have n1_ := Aside0.mk (blk_grown (g := gb393) (o := .cells (cJ (rd_T32 l0 x6_1)) 32 (0, 0)) (mBK BK393.out) hg (Kd.R_ne HO399.out BK393.out (by decide)))
                        have n2_ := Aside0.mk (blk_grown (g := gb396) (o := .cells (cJ (rd_T32 l0 (rd x5_1 (ji16)))) 32 (0, 0)) (mBK BK396.out) hg (Kd.R_ne HO399.out BK396.out (by decide)))
                        have n3_ := Aside0.mk (Kd.R_after (ok := (fun k_ => some k_ ≠ (.slice (some ad394) x5_1.length co14 : Value).ownBlock)) (by (with_reducible repeat (first | apply Kd.R_alloc | apply Kd.R_drewN | apply Kd.R_drew)); exact Kd.R_mono HO409.out (fun _ hk => ⟨hk.1.2, hk.2⟩)) hg hat)
                        have n4_ := Aside0.mk (hb)
                        have n5_ := Aside0.mk ((show Kd.C (Kd.int .i64) w41 (some ad394) y400.length y400 from by rw [Ny400.out]; exact Kd.C_take (m := (x8_3 : Int).toNat) ((Kd.R_reads' (Kd.R_after (ok := (fun k_ => some k_ ≠ (v408 : Value).ownBlock)) (by (with_reducible repeat (first | apply Kd.R_alloc | apply Kd.R_drewN | apply Kd.R_drew)); exact Kd.R_mono HO_5.out (fun _ hk => ⟨hk.2, hk.1.2⟩)) hg hat)).2.2) KL35.out))
                        have n6_ := Aside0.mk ((show Kd.C (Kd.int .i64) w41 A36 y413.length y413 from by rw [Ny413.out, KA36.out]; exact Kd.C_drop (m := (x8_3 : Int).toNat) (c := co14) ((Kd.R_reads' (Kd.R_after (ok := (fun k_ => some k_ ≠ (v408 : Value).ownBlock)) (by (with_reducible repeat (first | apply Kd.R_alloc | apply Kd.R_drewN | apply Kd.R_drew)); exact Kd.R_mono HO_5.out (fun _ hk => ⟨hk.2, hk.1.2⟩)) hg hat)).2.2) KL36.out ((Kd.R_reads' (Kd.R_after (ok := (fun k_ => some k_ ≠ (v408 : Value).ownBlock)) (by (with_reducible repeat (first | apply Kd.R_alloc | apply Kd.R_drewN | apply Kd.R_drew)); exact Kd.R_mono HO_5.out (fun _ hk => ⟨hk.2, hk.1.2⟩)) hg hat)).2.1)))
                        have n7_ := Aside0.mk (ho)
                        clear HO_5; clear BK393; clear BK396; clear HO409; clear HB; clear HR403; clear HR416; clear HO399
                        have HO_5 := n0_
                        have BK393 := n1_
                        have BK396 := n2_
                        have HO409 := n3_
                        have HB := n4_
                        have HR403 := n5_
                        have HR416 := n6_
                        have HO406 := n7_
                        clear n0_; clear n1_; clear n2_; clear n3_; clear n4_; clear n5_; clear n6_; clear n7_; clear ho; clear hb; clear hg; clear hat
                        refine hK.out _ _ trivial (fun hHeld => ?_)
                        clear hK; clear K
                        refine norm_ (a' := ?_) ?_ ?_
                        rotate_left
                        ·show Act.put _ (some 84) _ = _
                         simp only [Act.put, List.setIfInBounds_toArray, List.set_cons_zero, List.set_cons_succ, i64_w, i32_w]
                         rfl
                        exact norm_ (by simp only [putAll, Act.put, List.setIfInBounds_toArray, List.set_cons_zero, List.set_cons_succ]) (hCont (v398, v405, v408) _ ⟨(by (with_reducible repeat (first | apply Kd.R_alloc | apply Kd.R_drewN | apply Kd.R_drew)); exact Kd.R_mono HO406.out (fun _ hk => ⟨hk.2, hk.1⟩)), (by (with_reducible repeat (first | apply Kd.R_alloc | apply Kd.R_drewN | apply Kd.R_drew)); exact Kd.R_mono HO409.out (fun _ hk => ⟨hk.2, hk.1⟩)), (by (with_reducible repeat (first | apply Kd.R_alloc | apply Kd.R_drewN | apply Kd.R_drew)); exact Kd.R_mono HO_5.out (fun _ hk => ⟨hk.2, hk.1⟩)), (mC HR403.out), (mC HR416.out), (mBK BK393.out), (mBK BK396.out), (mBs HB.out)⟩)
                      ·skip
                       refine Kd.R_lit_step (Kd.int .i64) _ 3 ?hg (N := 86) ?hd (xs := ([x6_1] : List Int)) (inner := [.int .i64 x6_1]) (ok := fun _ => True) (okp := fun _ => True) ?hr ?hp (fun _ hk => hk) trivial (Below.refl _ _) (Nat.le_refl _) (by simp) ?_; (case hd => rfl); (case hg => rfl); (case hr => first | (go_simp; done) | (go_simp; rfl)); (case hp => exact (Reps.one (show Kd.M (Kd.int .i64) _ _ _ x6_1 [.int .i64 x6_1] from rfl) (Reps.none _ _)))
                       intro v408 w37 ho38 hb hg_ hnew_
                       clear hg_; clear hnew_
                       (first | rw [← Ny407.out] at ho38 | (simp only [Int.reduceToNat] at ho38; rw [← Ny407.out] at ho38))
                       have n0_ := Aside0.mk (Kd.R_elder' (mR HO_5.out) (Kd.R_base ho38) hb)
                       have n1_ := Aside0.mk (Kd.R_lower (Kd.R_new' ho38 (Kd.R_lt (mR HO_5.out))) (below_size (mBs HB.out)))
                       have n2_ := Aside0.mk (blk_below (g := gb393) (o := .cells (cJ (rd_T32 l0 x6_1)) 32 (0, 0)) (mBK BK393.out) hb)
                       have n3_ := Aside0.mk (blk_below (g := gb396) (o := .cells (cJ (rd_T32 l0 (rd x5_1 (ji16)))) 32 (0, 0)) (mBK BK396.out) hb)
                       have n4_ := Aside0.mk (Kd.C_below (mC HR403.out) hb)
                       have n5_ := Aside0.mk (Kd.C_below (mC HR416.out) hb)
                       have n6_ := Aside0.mk (below_step (mBs HB.out) hb)
                       clear HO_5; clear BK393; clear BK396; clear HR403; clear HR416; clear HB
                       have HO_5 := n0_
                       have HO409 := n1_
                       have BK393 := n2_
                       have BK396 := n3_
                       have HR403 := n4_
                       have HR416 := n5_
                       have HB := n6_
                       clear n0_; clear n1_; clear n2_; clear n3_; clear n4_; clear n5_; clear n6_; clear hb; clear ho38
                       refine hK.out _ _ trivial (fun hHeld => ?_)
                       clear hK; clear K
                       refine norm_ (a' := ?_) ?_ ?_
                       rotate_left
                       ·show Act.put _ (some 86) _ = _
                        simp only [Act.put, List.setIfInBounds_toArray, List.set_cons_zero, List.set_cons_succ, i64_w, i32_w]
                        rfl
                       refine one_ (i := 0) (N := some 80) #[true, true, true, true, false, true, true, false, true, true, true, false, false] rfl rfl (one_of HT_.out (by kernel_rfl)) (by decide) (fun K hK => ?_)
                       refine Kd.R_lit_step (Kd.int .i64) _ 3 ?hg (N := 80) ?hd (xs := ([] : List Int)) (inner := []) (ok := fun _ => True) (okp := fun _ => True) ?hr ?hp (fun _ hk => hk) trivial (Below.refl _ _) (Nat.le_refl _) (by simp) ?_; (case hd => rfl); (case hg => rfl); (case hr => first | (go_simp; done) | (go_simp; rfl)); (case hp => exact (Reps.none _ _))
                       intro v398 w39 ho40 hb hg_ hnew_
                       clear hg_; clear hnew_
                       (first | rw [← Ny397.out] at ho40 | (simp only [Int.reduceToNat] at ho40; rw [← Ny397.out] at ho40))
                       have n0_ := Aside0.mk (Kd.R_elder' (mR HO_5.out) (Kd.R_base ho40) hb)
                       have n1_ := Aside0.mk (Kd.R_elder' (mR HO409.out) (Kd.R_base ho40) hb)
                       have n2_ := Aside0.mk (Kd.R_lower (Kd.R_new' (Kd.R_new' ho40 (Kd.R_lt (mR HO_5.out))) (Kd.R_lt (mR HO409.out))) (below_size (mBs HB.out)))
                       have n3_ := Aside0.mk (blk_below (g := gb393) (o := .cells (cJ (rd_T32 l0 x6_1)) 32 (0, 0)) (mBK BK393.out) hb)
                       have n4_ := Aside0.mk (blk_below (g := gb396) (o := .cells (cJ (rd_T32 l0 (rd x5_1 (ji16)))) 32 (0, 0)) (mBK BK396.out) hb)
                       have n5_ := Aside0.mk (Kd.C_below (mC HR403.out) hb)
                       have n6_ := Aside0.mk (Kd.C_below (mC HR416.out) hb)
                       have n7_ := Aside0.mk (below_step (mBs HB.out) hb)
                       clear HO_5; clear HO409; clear BK393; clear BK396; clear HR403; clear HR416; clear HB
                       have HO_5 := n0_
                       have HO409 := n1_
                       have HO399 := n2_
                       have BK393 := n3_
                       have BK396 := n4_
                       have HR403 := n5_
                       have HR416 := n6_
                       have HB := n7_
                       clear n0_; clear n1_; clear n2_; clear n3_; clear n4_; clear n5_; clear n6_; clear n7_; clear hb; clear ho40
                       refine hK.out _ _ trivial (fun hHeld => ?_)
                       clear hK; clear K
                       refine norm_ (a' := ?_) ?_ ?_
                       rotate_left
                       ·show Act.put _ (some 80) _ = _
                        simp only [Act.put, List.setIfInBounds_toArray, List.set_cons_zero, List.set_cons_succ, i64_w, i32_w]
                        rfl
                       refine one_ (i := 4) (N := some 84) #[true, true, true, true, true, true, true, false, true, true, true, false, false] rfl rfl (one_of HT_.out (by kernel_rfl)) (by decide) (fun K hK => ?_)
                       refine Kd.R_append_rows_step (Kd.int .i64) (w0 := w) w.heap.size (by rfl) (.tmp 80) (.tmp 83) 24 3 (.int .i64 0) 8 rfl Try.underlying24 info3 rfl (by decide) (by omega) v398 y397 y400 _ _ _ (fun k_ => some k_ ≠ (.slice (some ad394) x5_1.length co14 : Value).ownBlock ∧ some k_ ≠ (v408 : Value).ownBlock) (fun _ => False) rfl rfl ?aO ?aR (fun _ _ h => h) (fun _ h => h.elim) ?aF ?aB ?aS ?aL ?_
                       (case aR => repeat (first | exact (mC HR403.out) | (with_reducible refine Kd.C_alloc ?_ _) | (with_reducible refine Kd.C_drewN ?_ _) | (with_reducible refine Kd.C_drew ?_)))
                       (case aB => exact (mBs HB.out))
                       (case aF => exact (fun k_ hk => ⟨Kd.fresh' (Kd.R_lt (mR HO_5.out)) k_ hk, Kd.fresh' (Kd.R_lt (mR HO409.out)) k_ hk⟩))
                       (case aO => exact (by (with_reducible repeat (first | apply Kd.R_alloc | apply Kd.R_drewN | apply Kd.R_drew)); exact Kd.R_mono HO399.out (fun _ hk => ⟨hk.1.2, hk.2⟩)))
                       (case aS => exact (below_size (mBs HB.out)))
                       (case aL => have := LMc24.out; omega)
                       intro v405 w41 ho hb hg hat
                       rw [← Ny404.out] at ho
                       have n0_ := Aside0.mk (Kd.R_after (ok := (fun k_ => some k_ ≠ (v408 : Value).ownBlock)) (by (with_reducible repeat (first | apply Kd.R_alloc | apply Kd.R_drewN | apply Kd.R_drew)); exact Kd.R_mono HO_5.out (fun _ hk => ⟨hk.1.2, hk.2⟩)) hg hat)
                       have n1_ := Aside0.mk (blk_grown (g := gb393) (o := .cells (cJ (rd_T32 l0 x6_1)) 32 (0, 0)) (mBK BK393.out) hg (Kd.R_ne HO399.out BK393.out (by decide)))
                       have n2_ := Aside0.mk (blk_grown (g := gb396) (o := .cells (cJ (rd_T32 l0 (rd x5_1 (ji16)))) 32 (0, 0)) (mBK BK396.out) hg (Kd.R_ne HO399.out BK396.out (by decide)))
                       have n3_ := Aside0.mk (Kd.R_after (ok := (fun k_ => some k_ ≠ (.slice (some ad394) x5_1.length co14 : Value).ownBlock)) (by (with_reducible repeat (first | apply Kd.R_alloc | apply Kd.R_drewN | apply Kd.R_drew)); exact Kd.R_mono HO409.out (fun _ hk => ⟨hk.1.2, hk.2⟩)) hg hat)
                       have n4_ := Aside0.mk (hb)
                       have n5_ := Aside0.mk ((show Kd.C (Kd.int .i64) w41 (some ad394) y400.length y400 from by rw [Ny400.out]; exact Kd.C_take (m := (x8_3 : Int).toNat) ((Kd.R_reads' (Kd.R_after (ok := (fun k_ => some k_ ≠ (v408 : Value).ownBlock)) (by (with_reducible repeat (first | apply Kd.R_alloc | apply Kd.R_drewN | apply Kd.R_drew)); exact Kd.R_mono HO_5.out (fun _ hk => ⟨hk.1.2, hk.2⟩)) hg hat)).2.2) KL35.out))
                       have n6_ := Aside0.mk ((show Kd.C (Kd.int .i64) w41 A36 y413.length y413 from by rw [Ny413.out, KA36.out]; exact Kd.C_drop (m := (x8_3 : Int).toNat) (c := co14) ((Kd.R_reads' (Kd.R_after (ok := (fun k_ => some k_ ≠ (v408 : Value).ownBlock)) (by (with_reducible repeat (first | apply Kd.R_alloc | apply Kd.R_drewN | apply Kd.R_drew)); exact Kd.R_mono HO_5.out (fun _ hk => ⟨hk.1.2, hk.2⟩)) hg hat)).2.2) KL36.out ((Kd.R_reads' (Kd.R_after (ok := (fun k_ => some k_ ≠ (v408 : Value).ownBlock)) (by (with_reducible repeat (first | apply Kd.R_alloc | apply Kd.R_drewN | apply Kd.R_drew)); exact Kd.R_mono HO_5.out (fun _ hk => ⟨hk.1.2, hk.2⟩)) hg hat)).2.1)))
                       have n7_ := Aside0.mk (ho)
                       clear HO_5; clear BK393; clear BK396; clear HO409; clear HB; clear HR403; clear HR416; clear HO399
                       have HO_5 := n0_
                       have BK393 := n1_
                       have BK396 := n2_
                       have HO409 := n3_
                       have HB := n4_
                       have HR403 := n5_
                       have HR416 := n6_
                       have HO406 := n7_
                       clear n0_; clear n1_; clear n2_; clear n3_; clear n4_; clear n5_; clear n6_; clear n7_; clear ho; clear hb; clear hg; clear hat
                       refine hK.out _ _ trivial (fun hHeld => ?_)
                       clear hK; clear K
                       refine norm_ (a' := ?_) ?_ ?_
                       rotate_left
                       ·show Act.put _ (some 84) _ = _
                        simp only [Act.put, List.setIfInBounds_toArray, List.set_cons_zero, List.set_cons_succ, i64_w, i32_w]
                        rfl
                       exact norm_ (by simp only [putAll, Act.put, List.setIfInBounds_toArray, List.set_cons_zero, List.set_cons_succ]) (hCont (v398, v405, v408) _ ⟨(by (with_reducible repeat (first | apply Kd.R_alloc | apply Kd.R_drewN | apply Kd.R_drew)); exact Kd.R_mono HO406.out (fun _ hk => ⟨hk.2, hk.1⟩)), (by (with_reducible repeat (first | apply Kd.R_alloc | apply Kd.R_drewN | apply Kd.R_drew)); exact Kd.R_mono HO409.out (fun _ hk => ⟨hk.2, hk.1⟩)), (by (with_reducible repeat (first | apply Kd.R_alloc | apply Kd.R_drewN | apply Kd.R_drew)); exact Kd.R_mono HO_5.out (fun _ hk => ⟨hk.2, hk.1⟩)), (mC HR403.out), (mC HR416.out), (mBK BK393.out), (mBK BK396.out), (mBs HB.out)⟩)
                     rintro ⟨v398, v405, v408⟩ w42 ⟨h0_, h1_, h2_, h3_, h4_, h5_, h6_, h7_⟩
                     have n0_ : Aside0 (Kd.R (Kd.int .i64) 3 w42 w.heap.size (fun k_ => some k_ ≠ (v408 : Value).ownBlock ∧ some k_ ≠ (.slice (some ad394) x5_1.length co14 : Value).ownBlock) v405 y404) := ⟨h0_⟩
                     have n1_ : Aside0 (Kd.R (Kd.int .i64) 3 w42 w.heap.size (fun k_ => some k_ ≠ (v405 : Value).ownBlock ∧ some k_ ≠ (.slice (some ad394) x5_1.length co14 : Value).ownBlock) v408 y407) := ⟨h1_⟩
                     have n2_ : Aside0 (Kd.R (Kd.int .i64) 3 w42 w.heap.size (fun k_ => some k_ ≠ (v405 : Value).ownBlock ∧ some k_ ≠ (v408 : Value).ownBlock) (.slice (some ad394) x5_1.length co14) x5_1) := ⟨h2_⟩
                     have n3_ : Aside0 (Kd.C (Kd.int .i64) w42 (some ad394) y400.length y400) := ⟨h3_⟩
                     have n4_ : Aside0 (Kd.C (Kd.int .i64) w42 A36 y413.length y413) := ⟨h4_⟩
                     have n5_ : Aside0 (w42.heap[gb393]? = some (.cells (cJ (rd_T32 l0 x6_1)) 32 (0, 0))) := ⟨h5_⟩
                     have n6_ : Aside0 (w42.heap[gb396]? = some (.cells (cJ (rd_T32 l0 (rd x5_1 (ji16)))) 32 (0, 0))) := ⟨h6_⟩
                     have n7_ : Aside0 (Below w.heap.size w w42) := ⟨h7_⟩
                     clear HO_5; clear BK393; clear BK396; clear HB; clear h0_; clear h1_; clear h2_; clear h3_; clear h4_; clear h5_; clear h6_; clear h7_
                     have HO406 := n0_
                     have HO409 := n1_
                     have HO_5 := n2_
                     have HR403 := n3_
                     have HR416 := n4_
                     have BK393 := n5_
                     have BK396 := n6_
                     have HB := n7_
                     clear n0_; clear n1_; clear n2_; clear n3_; clear n4_; clear n5_; clear n6_; clear n7_
                     have hHeld := trivial
                     obtain ⟨Ao44, co44, eo44⟩ := Kd.R_slice HO409.out
                     (first | subst eo44 | (injection eo44 with f1_ f2_ f3_; have f4_ := f1_.symm; have f5_ := f3_.symm; clear f1_ f2_ f3_; subst f4_; subst f5_))
                     refine norm_ (a' := ?_) ?_ ?_
                     rotate_left
                     ·simp only [putAll, Act.put, List.setIfInBounds_toArray, List.set_cons_zero, List.set_cons_succ]
                      rfl
                     refine one_ (i := 7) (N := some 87) #[true, true, true, true, true, true, true, true, true, true, true, false, false] rfl rfl (one_of HT_.out (by kernel_rfl)) (by decide) (fun K hK => ?_)
                     refine Kd.R_append_rows_step (Kd.int .i64) (w0 := w) w.heap.size (by rfl) (.tmp 84) (.tmp 86) 24 3 (.int .i64 0) 8 rfl Try.underlying24 info3 rfl (by decide) (by omega) v405 y404 y407 _ _ _ (fun k_ => some k_ ≠ (.slice (some ad394) x5_1.length co14 : Value).ownBlock ∧ some k_ ≠ (.slice Ao44 y407.length co44 : Value).ownBlock) (fun _ => False) rfl rfl ?aO ?aR (fun _ _ h => h) (fun _ h => h.elim) ?aF ?aB ?aS ?aL ?_
                     (case aR => repeat (first | exact (Kd.R_reads' HO409.out).2.2 | (with_reducible refine Kd.C_alloc ?_ _) | (with_reducible refine Kd.C_drewN ?_ _) | (with_reducible refine Kd.C_drew ?_)))
                     (case aB => exact (mBs HB.out))
                     (case aF => exact (fun k_ hk => ⟨Kd.fresh' (Kd.R_lt (mR HO_5.out)) k_ hk, Kd.fresh' (Kd.R_lt (mR HO409.out)) k_ hk⟩))
                     (case aO => exact (by (with_reducible repeat (first | apply Kd.R_alloc | apply Kd.R_drewN | apply Kd.R_drew)); exact Kd.R_mono HO406.out (fun _ hk => ⟨hk.2, hk.1⟩)))
                     (case aS => exact (below_size (mBs HB.out)))
                     (case aL => have := LMc25.out; omega)
                     intro v411 w43 ho hb hg hat
                     rw [← Ny410.out] at ho
                     have n0_ := Aside0.mk (Kd.R_after (ok := (fun k_ => some k_ ≠ (.slice Ao44 y407.length co44 : Value).ownBlock)) (by (with_reducible repeat (first | apply Kd.R_alloc | apply Kd.R_drewN | apply Kd.R_drew)); exact Kd.R_mono HO_5.out (fun _ hk => ⟨hk.2, hk.1⟩)) hg hat)
                     have n1_ := Aside0.mk (blk_grown (g := gb393) (o := .cells (cJ (rd_T32 l0 x6_1)) 32 (0, 0)) (mBK BK393.out) hg (Kd.R_ne HO406.out BK393.out (by decide)))
                     have n2_ := Aside0.mk (blk_grown (g := gb396) (o := .cells (cJ (rd_T32 l0 (rd x5_1 (ji16)))) 32 (0, 0)) (mBK BK396.out) hg (Kd.R_ne HO406.out BK396.out (by decide)))
                     have n3_ := Aside0.mk (Kd.R_after (ok := (fun k_ => some k_ ≠ (.slice (some ad394) x5_1.length co14 : Value).ownBlock)) (by (with_reducible repeat (first | apply Kd.R_alloc | apply Kd.R_drewN | apply Kd.R_drew)); exact Kd.R_mono HO409.out (fun _ hk => ⟨hk.2, hk.1⟩)) hg hat)
                     have n4_ := Aside0.mk (hb)
                     have n5_ := Aside0.mk ((show Kd.C (Kd.int .i64) w43 (some ad394) y400.length y400 from by rw [Ny400.out]; exact Kd.C_take (m := (x8_3 : Int).toNat) ((Kd.R_reads' (Kd.R_after (ok := (fun k_ => some k_ ≠ (.slice Ao44 y407.length co44 : Value).ownBlock)) (by (with_reducible repeat (first | apply Kd.R_alloc | apply Kd.R_drewN | apply Kd.R_drew)); exact Kd.R_mono HO_5.out (fun _ hk => ⟨hk.2, hk.1⟩)) hg hat)).2.2) KL35.out))
                     have n6_ := Aside0.mk ((show Kd.C (Kd.int .i64) w43 A36 y413.length y413 from by rw [Ny413.out, KA36.out]; exact Kd.C_drop (m := (x8_3 : Int).toNat) (c := co14) ((Kd.R_reads' (Kd.R_after (ok := (fun k_ => some k_ ≠ (.slice Ao44 y407.length co44 : Value).ownBlock)) (by (with_reducible repeat (first | apply Kd.R_alloc | apply Kd.R_drewN | apply Kd.R_drew)); exact Kd.R_mono HO_5.out (fun _ hk => ⟨hk.2, hk.1⟩)) hg hat)).2.2) KL36.out ((Kd.R_reads' (Kd.R_after (ok := (fun k_ => some k_ ≠ (.slice Ao44 y407.length co44 : Value).ownBlock)) (by (with_reducible repeat (first | apply Kd.R_alloc | apply Kd.R_drewN | apply Kd.R_drew)); exact Kd.R_mono HO_5.out (fun _ hk => ⟨hk.2, hk.1⟩)) hg hat)).2.1)))
                     have n7_ := Aside0.mk (ho)
                     clear HO_5; clear BK393; clear BK396; clear HO409; clear HB; clear HR403; clear HR416; clear HO406
                     have HO_5 := n0_
                     have BK393 := n1_
                     have BK396 := n2_
                     have HO409 := n3_
                     have HB := n4_
                     have HR403 := n5_
                     have HR416 := n6_
                     have HO412 := n7_
                     clear n0_; clear n1_; clear n2_; clear n3_; clear n4_; clear n5_; clear n6_; clear n7_; clear ho; clear hb; clear hg; clear hat
                     refine hK.out _ _ trivial (fun hHeld => ?_)
                     clear hK; clear K
                     refine norm_ (a' := ?_) ?_ ?_
                     rotate_left
                     ·show Act.put _ (some 87) _ = _
                      simp only [Act.put, List.setIfInBounds_toArray, List.set_cons_zero, List.set_cons_succ, i64_w, i32_w]
                      rfl
                     refine one_ (i := 11) (N := some 91) #[true, true, true, true, true, true, true, true, true, true, true, true, false] rfl rfl (one_of HT_.out (by kernel_rfl)) (by decide) (fun K hK => ?_)
                     refine Kd.R_append_rows_step (Kd.int .i64) (w0 := w) w.heap.size (by rfl) (.tmp 87) (.tmp 90) 24 3 (.int .i64 0) 8 rfl Try.underlying24 info3 rfl (by decide) (by omega) v411 y410 y413 _ _ _ (fun k_ => some k_ ≠ (.slice (some ad394) x5_1.length co14 : Value).ownBlock ∧ some k_ ≠ (.slice Ao44 y407.length co44 : Value).ownBlock) (fun _ => False) rfl rfl ?aO ?aR (fun _ _ h => h) (fun _ h => h.elim) ?aF ?aB ?aS ?aL ?_
                     (case aR => repeat (first | exact (mC HR416.out) | (with_reducible refine Kd.C_alloc ?_ _) | (with_reducible refine Kd.C_drewN ?_ _) | (with_reducible refine Kd.C_drew ?_)))
                     (case aB => exact (mBs HB.out))
                     (case aF => exact (fun k_ hk => ⟨Kd.fresh' (Kd.R_lt (mR HO_5.out)) k_ hk, Kd.fresh' (Kd.R_lt (mR HO409.out)) k_ hk⟩))
                     (case aO => exact (mR HO412.out))
                     (case aS => exact (below_size (mBs HB.out)))
                     (case aL => have := LMc28.out; omega)
                     intro v418 w45 ho hb hg hat
                     rw [← Ny417.out] at ho
                     have n0_ := Aside0.mk (Kd.R_after (ok := (fun k_ => some k_ ≠ (.slice Ao44 y407.length co44 : Value).ownBlock)) (mR HO_5.out) hg hat)
                     have n1_ := Aside0.mk (blk_grown (g := gb393) (o := .cells (cJ (rd_T32 l0 x6_1)) 32 (0, 0)) (mBK BK393.out) hg (Kd.R_ne HO412.out BK393.out (by decide)))
                     have n2_ := Aside0.mk (blk_grown (g := gb396) (o := .cells (cJ (rd_T32 l0 (rd x5_1 (ji16)))) 32 (0, 0)) (mBK BK396.out) hg (Kd.R_ne HO412.out BK396.out (by decide)))
                     have n3_ := Aside0.mk (Kd.R_after (ok := (fun k_ => some k_ ≠ (.slice (some ad394) x5_1.length co14 : Value).ownBlock)) (mR HO409.out) hg hat)
                     have n4_ := Aside0.mk (hb)
                     have n5_ := Aside0.mk ((show Kd.C (Kd.int .i64) w45 (some ad394) y400.length y400 from by rw [Ny400.out]; exact Kd.C_take (m := (x8_3 : Int).toNat) ((Kd.R_reads' (Kd.R_after (ok := (fun k_ => some k_ ≠ (.slice Ao44 y407.length co44 : Value).ownBlock)) (mR HO_5.out) hg hat)).2.2) KL35.out))
                     have n6_ := Aside0.mk ((show Kd.C (Kd.int .i64) w45 A36 y413.length y413 from by rw [Ny413.out, KA36.out]; exact Kd.C_drop (m := (x8_3 : Int).toNat) (c := co14) ((Kd.R_reads' (Kd.R_after (ok := (fun k_ => some k_ ≠ (.slice Ao44 y407.length co44 : Value).ownBlock)) (mR HO_5.out) hg hat)).2.2) KL36.out ((Kd.R_reads' (Kd.R_after (ok := (fun k_ => some k_ ≠ (.slice Ao44 y407.length co44 : Value).ownBlock)) (mR HO_5.out) hg hat)).2.1)))
                     have n7_ := Aside0.mk (ho)
                     clear HO_5; clear BK393; clear BK396; clear HO409; clear HB; clear HR403; clear HR416; clear HO412
                     have HO_5 := n0_
                     have BK393 := n1_
                     have BK396 := n2_
                     have HO409 := n3_
                     have HB := n4_
                     have HR403 := n5_
                     have HR416 := n6_
                     have HO419 := n7_
                     clear n0_; clear n1_; clear n2_; clear n3_; clear n4_; clear n5_; clear n6_; clear n7_; clear ho; clear hb; clear hg; clear hat
                     refine hK.out _ _ trivial (fun hHeld => ?_)
                     clear hK; clear K
                     refine norm_ (a' := ?_) ?_ ?_
                     rotate_left
                     ·show Act.put _ (some 91) _ = _
                      simp only [Act.put, List.setIfInBounds_toArray, List.set_cons_zero, List.set_cons_succ, i64_w, i32_w]
                      rfl
                     refine plan_ [(12, 5)] ?_
                     refine planP_ (v := ?_) (a' := ?_) rfl rfl (any_of HT_.out (by kernel_rfl)) (fun _ _ _ h => h) (Or.inl ⟨by rfl, ?_⟩) ?_ ?_; rotate_left; (intro w'; go_simp; with_reducible rfl); rotate_left; (simp only [Act.put, List.setIfInBounds_toArray, List.set_cons_zero, List.set_cons_succ, i64_w, i32_w]; rfl)
                     refine planEnd_ ?_
                     refine done_ (done_of HT_.out (by kernel_rfl)) ?_
                     try go_wp2
                     go_roundg k3
                     case measure => have := HK1.out; have := HJ6.out; have := HK3.out; omega
                     case rel => exact ⟨(y417), (wrap64 (x6_1 + 1)), ez, H', ⟨by have := HK1.out; have := HJ6.out; have := HK3.out; omega⟩, ⟨by (with_reducible repeat (first | apply Kd.R_alloc | apply Kd.R_drewN | apply Kd.R_drew)); exact Kd.R_mono HO419.out (fun _ hk => trivial)⟩, ⟨mBs HB.out⟩⟩
                    ·rw [if_neg c28] at H
                     exact absurd H (by simp)
                   ·rw [if_neg c25] at H
                    exact absurd H (by simp)
                  ·rw [if_neg c24] at H
                   exact absurd H (by simp)
                 ·rw [if_neg c23] at H
                  exact absurd H (by simp)
                ·rw [if_neg c22] at H
                 exact absurd H (by simp)
               ·rw [if_neg c21] at H
                have c21b0 : decide ((wrap64 (((rd_T32 l0 (rd x5_1 (ji16))).f8) + ((rd_T32 l0 (rd x5_1 (ji16))).f3))) < (wrap64 (((rd_T32 l0 x6_1).f8) + ((rd_T32 l0 x6_1).f3)))) = false := decide_eq_false c21
                clear c21
                by_cases c46 : (wrap64 (((rd_T32 l0 (rd x5_1 (ji16))).f8) + ((rd_T32 l0 (rd x5_1 (ji16))).f3))) = (wrap64 (((rd_T32 l0 x6_1).f8) + ((rd_T32 l0 x6_1).f3)))
                ·rw [if_pos c46] at H
                 have c46b0 : ((wrap64 (((rd_T32 l0 (rd x5_1 (ji16))).f8) + ((rd_T32 l0 (rd x5_1 (ji16))).f3))) == (wrap64 (((rd_T32 l0 x6_1).f8) + ((rd_T32 l0 x6_1).f3)))) = true := beq_iff_eq.mpr c46
                 have c46b1 : ((wrap64 (((rd_T32 l0 (rd x5_1 (ji16))).f8) + ((rd_T32 l0 (rd x5_1 (ji16))).f3))) != (wrap64 (((rd_T32 l0 x6_1).f8) + ((rd_T32 l0 x6_1).f3)))) = false := bne_eq_false_iff_eq.mpr c46
                 clear c46
                 by_cases c47 : ((rd_T32 l0 (rd x5_1 (ji16))).f0) ≤ ((rd_T32 l0 x6_1).f0)
                 ·rw [if_pos c47] at H
                  have c47b0 : decide (((rd_T32 l0 (rd x5_1 (ji16))).f0) ≤ ((rd_T32 l0 x6_1).f0)) = true := decide_eq_true c47
                  clear c47
                  obtain ⟨y420, hy420⟩ : ∃ y_ : List Int, y_ = (([] : List Int)) := ⟨_, rfl⟩
                  replace H : (if 0 ≤ x8_3 then (if x8_3 ≤ (x5_1.length : Int) then ((some (x5_1.take (x8_3 : Int).toNat : List Int)).bind fun y423 => (if y420.length + y423.length < 17592186044416 then ((some (y420 ++ y423 : List Int)).bind fun y427 => ((some (([x6_1] : List Int) : List Int)).bind fun y430 => (if y427.length + y430.length < 17592186044416 then ((some (y427 ++ y430 : List Int)).bind fun y433 => ((some (x5_1.drop (x8_3 : Int).toNat : List Int)).bind fun y436 => (if y433.length + y436.length < 17592186044416 then (prebendref19_Due.l0 k3 l0 a1 (y433 ++ y436) (wrap64 (x6_1 + 1))) else (none)))) else (none)))) else (none))) else (none)) else (none)) = some r := mH hy420 H
                  have Ny420 := Aside0.mk hy420
                  clear hy420
                  by_cases c48 : 0 ≤ x8_3
                  ·rw [if_pos c48] at H
                   have c48b0 := eq_true c48
                   have c48b1 : decide (0 ≤ x8_3) = true := decide_eq_true c48
                   clear c48
                   by_cases c49 : x8_3 ≤ (x5_1.length : Int)
                   ·rw [if_pos c49] at H
                    have c49b0 := eq_true c49
                    have c49b1 : decide (x8_3 ≤ (x5_1.length : Int)) = true := decide_eq_true c49
                    clear c49
                    obtain ⟨y423, hy423⟩ : ∃ y_ : List Int, y_ = (x5_1.take (x8_3 : Int).toNat) := ⟨_, rfl⟩
                    replace H : (if y420.length + y423.length < 17592186044416 then ((some (y420 ++ y423 : List Int)).bind fun y427 => ((some (([x6_1] : List Int) : List Int)).bind fun y430 => (if y427.length + y430.length < 17592186044416 then ((some (y427 ++ y430 : List Int)).bind fun y433 => ((some (x5_1.drop (x8_3 : Int).toNat : List Int)).bind fun y436 => (if y433.length + y436.length < 17592186044416 then (prebendref19_Due.l0 k3 l0 a1 (y433 ++ y436) (wrap64 (x6_1 + 1))) else (none)))) else (none)))) else (none)) = some r := mH hy423 H
                    have Ny423 := Aside0.mk hy423
                    clear hy423
                    by_cases c50 : y420.length + y423.length < 17592186044416
                    ·rw [if_pos c50] at H
                     have LMc50 := Aside0.mk c50
                     clear c50
                     obtain ⟨y427, hy427⟩ : ∃ y_ : List Int, y_ = (y420 ++ y423) := ⟨_, rfl⟩
                     replace H : ((some (([x6_1] : List Int) : List Int)).bind fun y430 => (if y427.length + y430.length < 17592186044416 then ((some (y427 ++ y430 : List Int)).bind fun y433 => ((some (x5_1.drop (x8_3 : Int).toNat : List Int)).bind fun y436 => (if y433.length + y436.length < 17592186044416 then (prebendref19_Due.l0 k3 l0 a1 (y433 ++ y436) (wrap64 (x6_1 + 1))) else (none)))) else (none))) = some r := mH hy427 H
                     have Ny427 := Aside0.mk hy427
                     clear hy427
                     obtain ⟨y430, hy430⟩ : ∃ y_ : List Int, y_ = (([x6_1] : List Int)) := ⟨_, rfl⟩
                     replace H : (if y427.length + y430.length < 17592186044416 then ((some (y427 ++ y430 : List Int)).bind fun y433 => ((some (x5_1.drop (x8_3 : Int).toNat : List Int)).bind fun y436 => (if y433.length + y436.length < 17592186044416 then (prebendref19_Due.l0 k3 l0 a1 (y433 ++ y436) (wrap64 (x6_1 + 1))) else (none)))) else (none)) = some r := mH hy430 H
                     have Ny430 := Aside0.mk hy430
                     clear hy430
                     by_cases c51 : y427.length + y430.length < 17592186044416
                     ·rw [if_pos c51] at H
                      have LMc51 := Aside0.mk c51
                      clear c51
                      obtain ⟨y433, hy433⟩ : ∃ y_ : List Int, y_ = (y427 ++ y430) := ⟨_, rfl⟩
                      replace H : ((some (x5_1.drop (x8_3 : Int).toNat : List Int)).bind fun y436 => (if y433.length + y436.length < 17592186044416 then (prebendref19_Due.l0 k3 l0 a1 (y433 ++ y436) (wrap64 (x6_1 + 1))) else (none))) = some r := mH hy433 H
                      have Ny433 := Aside0.mk hy433
                      clear hy433
                      have c52b0 := eq_true (oda : 0 ≤ x8_3)
                      have c53b0 := eq_true (oda : x8_3 ≤ (x5_1.length : Int))
                      obtain ⟨y436, hy436⟩ : ∃ y_ : List Int, y_ = (x5_1.drop (x8_3 : Int).toNat) := ⟨_, rfl⟩
                      replace H : (if y433.length + y436.length < 17592186044416 then (prebendref19_Due.l0 k3 l0 a1 (y433 ++ y436) (wrap64 (x6_1 + 1))) else (none)) = some r := mH hy436 H
                      have Ny436 := Aside0.mk hy436
                      clear hy436
                      by_cases c54 : y433.length + y436.length < 17592186044416
                      ·rw [if_pos c54] at H
                       have LMc54 := Aside0.mk c54
                       clear c54
                       obtain ⟨y440, hy440⟩ : ∃ y_ : List Int, y_ = (y433 ++ y436) := ⟨_, rfl⟩
                       replace H : (prebendref19_Due.l0 k3 l0 a1 y440 (wrap64 (x6_1 + 1))) = some r := mH hy440 H
                       have Ny440 := Aside0.mk hy440
                       clear hy440
                       have H' := Aside0.mk H
                       clear H
                       have p394 : 0 ≤ ((ji16) : Int) := oda
                       have q394 : (ji16) < (x5_1.length : Int) := oda
                       obtain ⟨ad394, e394, hx394_0⟩ := Kd.at_int (Kd.R_reads' HO_5.out).2.2 (ji16) p394 q394
                       cases e394
                       replace p394 := eq_true p394
                       replace q394 := eq_true q394
                       have p395 : 0 ≤ ((rd x5_1 (ji16)) : Int) := oda
                       have q395 : (rd x5_1 (ji16)) < (l0.length : Int) := oda
                       obtain ⟨ad395, e395, hx395_0, hx395_1, hx395_2, hx395_3, hx395_4, hx395_5, hx395_6, hx395_7, hx395_8, hx395_9, hx395_10, hx395_11⟩ := at_T32 HR0.out (rd x5_1 (ji16)) p395 q395
                       obtain rfl : ad392 = ad395 := (by injection e395)
                       replace hx395_0 := hs_ HB.out hx395_0
                       replace hx395_1 := hs_ HB.out hx395_1
                       replace hx395_2 := hs_ HB.out hx395_2
                       replace hx395_3 := hs_ HB.out hx395_3
                       replace hx395_4 := hs_ HB.out hx395_4
                       replace hx395_5 := hs_ HB.out hx395_5
                       replace hx395_6 := hs_ HB.out hx395_6
                       replace hx395_7 := hs_ HB.out hx395_7
                       replace hx395_8 := hs_ HB.out hx395_8
                       replace hx395_9 := hs_ HB.out hx395_9
                       replace hx395_10 := hs_ HB.out hx395_10
                       replace hx395_11 := hs_ HB.out hx395_11
                       replace p395 := eq_true p395
                       replace q395 := eq_true q395
                       try go_wp2_with (first | ((with_reducible refine gate_dst (N := 9) rfl ?_); refine box_event ?hg (N := 9) ?hd (cs := #[.int .i64 0, .int .i64 0, .int .i64 0, .int .i64 0, .int .i64 0, .int .i64 0, .int .i64 0, .int .i64 0, .int .i64 0, .int .i64 0, .int .i64 0, .slice none 0 0]) (t := 32) ?hr ?_; (case hd => rfl); (case hg => rfl); (case hr => first | (go_simp; done) | (go_simp; rfl)); intro gb396 hg w55 hbox hb; have n0_ := Aside0.mk (Kd.R_below (mR HO_5.out) hb); have n1_ := Aside0.mk (blk_below (g := gb393) (o := .cells (cJ (rd_T32 l0 x6_1)) 32 (0, 0)) (mBK BK393.out) hb); have n2_ := Aside0.mk (below_step (mBs HB.out) hb); have n3_ := Aside0.mk (hbox); have n4_ := Aside0.mk ((by rw [hg]; exact (below_size (mBs HB.out)) : w.heap.size ≤ gb396)); have n5_ := Aside0.mk ((by rw [hg]; exact (below_size (mBs HB.out)) : w.heap.size ≤ gb396)); have n6_ := Aside0.mk ((by rw [hg]; exact Nat.ne_of_lt (blk_lt (g := gb393) (o := .cells (cJ (rd_T32 l0 x6_1)) 32 (0, 0)) (mBK BK393.out)) : gb393 ≠ gb396)); have n7_ := Aside0.mk ((by rw [hg]; exact Nat.ne_of_gt (blk_lt (g := gb393) (o := .cells (cJ (rd_T32 l0 x6_1)) 32 (0, 0)) (mBK BK393.out)) : gb396 ≠ gb393)); clear HO_5; clear BK393; clear HB; have HO_5 := n0_; have BK393 := n1_; have HB := n2_; have BK396 := n3_; have GW396 := n4_; have GE396 := n5_; have NB393_396 := n6_; have NB396_393 := n7_; clear n0_ n1_ n2_ n3_ n4_ n5_ n6_ n7_; clear hb hbox hg; have hnb56 := NB396_393.out; have hnc56 := NB393_396.out; have hcz57_0 : w55.cell? ⟨gb396, 0, none⟩ = some (.int .i64 0) := (blk_cell BK396.out 0).trans rfl; have hcz57_1 : w55.cell? ⟨gb396, 1, none⟩ = some (.int .i64 0) := (blk_cell BK396.out 1).trans rfl; have hcz57_2 : w55.cell? ⟨gb396, 2, none⟩ = some (.int .i64 0) := (blk_cell BK396.out 2).trans rfl; have hcz57_3 : w55.cell? ⟨gb396, 3, none⟩ = some (.int .i64 0) := (blk_cell BK396.out 3).trans rfl; have hcz57_4 : w55.cell? ⟨gb396, 4, none⟩ = some (.int .i64 0) := (blk_cell BK396.out 4).trans rfl; have hcz57_5 : w55.cell? ⟨gb396, 5, none⟩ = some (.int .i64 0) := (blk_cell BK396.out 5).trans rfl; have hcz57_6 : w55.cell? ⟨gb396, 6, none⟩ = some (.int .i64 0) := (blk_cell BK396.out 6).trans rfl; have hcz57_7 : w55.cell? ⟨gb396, 7, none⟩ = some (.int .i64 0) := (blk_cell BK396.out 7).trans rfl; have hcz57_8 : w55.cell? ⟨gb396, 8, none⟩ = some (.int .i64 0) := (blk_cell BK396.out 8).trans rfl; have hcz57_9 : w55.cell? ⟨gb396, 9, none⟩ = some (.int .i64 0) := (blk_cell BK396.out 9).trans rfl; have hcz57_10 : w55.cell? ⟨gb396, 10, none⟩ = some (.int .i64 0) := (blk_cell BK396.out 10).trans rfl; have hcz57_11 : w55.cell? ⟨gb396, 11, none⟩ = some (.slice none 0 0) := (blk_cell BK396.out 11).trans rfl; have hfz57_0 := blk_frozen BK396.out 0; have hfz57_1 := blk_frozen BK396.out 1; have hfz57_2 := blk_frozen BK396.out 2; have hfz57_3 := blk_frozen BK396.out 3; have hfz57_4 := blk_frozen BK396.out 4; have hfz57_5 := blk_frozen BK396.out 5; have hfz57_6 := blk_frozen BK396.out 6; have hfz57_7 := blk_frozen BK396.out 7; have hfz57_8 := blk_frozen BK396.out 8; have hfz57_9 := blk_frozen BK396.out 9; have hfz57_10 := blk_frozen BK396.out 10; have hfz57_11 := blk_frozen BK396.out 11; have hcz58_0 : w55.cell? ⟨gb393, 0, none⟩ = some (.int .i64 ((rd_T32 l0 x6_1).f0)) := (blk_cell BK393.out 0).trans rfl; have hcz58_1 : w55.cell? ⟨gb393, 1, none⟩ = some (.int .i64 ((rd_T32 l0 x6_1).f1)) := (blk_cell BK393.out 1).trans rfl; have hcz58_2 : w55.cell? ⟨gb393, 2, none⟩ = some (.int .i64 ((rd_T32 l0 x6_1).f2)) := (blk_cell BK393.out 2).trans rfl; have hcz58_3 : w55.cell? ⟨gb393, 3, none⟩ = some (.int .i64 ((rd_T32 l0 x6_1).f3)) := (blk_cell BK393.out 3).trans rfl; have hcz58_4 : w55.cell? ⟨gb393, 4, none⟩ = some (.int .i64 ((rd_T32 l0 x6_1).f4)) := (blk_cell BK393.out 4).trans rfl; have hcz58_5 : w55.cell? ⟨gb393, 5, none⟩ = some (.int .i64 ((rd_T32 l0 x6_1).f5)) := (blk_cell BK393.out 5).trans rfl; have hcz58_6 : w55.cell? ⟨gb393, 6, none⟩ = some (.int .i64 ((rd_T32 l0 x6_1).f6)) := (blk_cell BK393.out 6).trans rfl; have hcz58_7 : w55.cell? ⟨gb393, 7, none⟩ = some (.int .i64 ((rd_T32 l0 x6_1).f7)) := (blk_cell BK393.out 7).trans rfl; have hcz58_8 : w55.cell? ⟨gb393, 8, none⟩ = some (.int .i64 ((rd_T32 l0 x6_1).f8)) := (blk_cell BK393.out 8).trans rfl; have hcz58_9 : w55.cell? ⟨gb393, 9, none⟩ = some (.int .i64 ((rd_T32 l0 x6_1).f9)) := (blk_cell BK393.out 9).trans rfl; have hcz58_10 : w55.cell? ⟨gb393, 10, none⟩ = some (.int .i64 ((rd_T32 l0 x6_1).f10)) := (blk_cell BK393.out 10).trans rfl; have hcz58_11 : w55.cell? ⟨gb393, 11, none⟩ = some (.slice ((rd_T32 l0 x6_1).f11).A ((rd_T32 l0 x6_1).f11).n ((rd_T32 l0 x6_1).f11).c) := (blk_cell BK393.out 11).trans rfl; have hfz58_0 := blk_frozen BK393.out 0; have hfz58_1 := blk_frozen BK393.out 1; have hfz58_2 := blk_frozen BK393.out 2; have hfz58_3 := blk_frozen BK393.out 3; have hfz58_4 := blk_frozen BK393.out 4; have hfz58_5 := blk_frozen BK393.out 5; have hfz58_6 := blk_frozen BK393.out 6; have hfz58_7 := blk_frozen BK393.out 7; have hfz58_8 := blk_frozen BK393.out 8; have hfz58_9 := blk_frozen BK393.out 9; have hfz58_10 := blk_frozen BK393.out 10; have hfz58_11 := blk_frozen BK393.out 11))
                       have n0_ : Aside0 (Kd.R (Kd.int .i64) 3 ((((((((((((w55.setCell ⟨gb396, 0, none⟩ (.int .i64 ((rd_T32 l0 (rd x5_1 (ji16))).f0))).setCell ⟨gb396, 1, none⟩ (.int .i64 ((rd_T32 l0 (rd x5_1 (ji16))).f1))).setCell ⟨gb396, 2, none⟩ (.int .i64 ((rd_T32 l0 (rd x5_1 (ji16))).f2))).setCell ⟨gb396, 3, none⟩ (.int .i64 ((rd_T32 l0 (rd x5_1 (ji16))).f3))).setCell ⟨gb396, 4, none⟩ (.int .i64 ((rd_T32 l0 (rd x5_1 (ji16))).f4))).setCell ⟨gb396, 5, none⟩ (.int .i64 ((rd_T32 l0 (rd x5_1 (ji16))).f5))).setCell ⟨gb396, 6, none⟩ (.int .i64 ((rd_T32 l0 (rd x5_1 (ji16))).f6))).setCell ⟨gb396, 7, none⟩ (.int .i64 ((rd_T32 l0 (rd x5_1 (ji16))).f7))).setCell ⟨gb396, 8, none⟩ (.int .i64 ((rd_T32 l0 (rd x5_1 (ji16))).f8))).setCell ⟨gb396, 9, none⟩ (.int .i64 ((rd_T32 l0 (rd x5_1 (ji16))).f9))).setCell ⟨gb396, 10, none⟩ (.int .i64 ((rd_T32 l0 (rd x5_1 (ji16))).f10))).setCell ⟨gb396, 11, none⟩ (.slice ((rd_T32 l0 (rd x5_1 (ji16))).f11).A ((rd_T32 l0 (rd x5_1 (ji16))).f11).n ((rd_T32 l0 (rd x5_1 (ji16))).f11).c)) w.heap.size (fun _ => True) (.slice (some ad394) x5_1.length co14) x5_1) := ⟨by (with_reducible repeat (first | apply Kd.R_alloc | apply Kd.R_drewN | apply Kd.R_drew)); exact Kd.R_mono (Kd.R_fa gb396 11 (Kd.R_fa gb396 10 (Kd.R_fa gb396 9 (Kd.R_fa gb396 8 (Kd.R_fa gb396 7 (Kd.R_fa gb396 6 (Kd.R_fa gb396 5 (Kd.R_fa gb396 4 (Kd.R_fa gb396 3 (Kd.R_fa gb396 2 (Kd.R_fa gb396 1 (Kd.R_fa gb396 0 (Kd.R_types HO_5.out BK396.out (by decide)) (.int .i64 ((rd_T32 l0 (rd x5_1 (ji16))).f0))) (.int .i64 ((rd_T32 l0 (rd x5_1 (ji16))).f1))) (.int .i64 ((rd_T32 l0 (rd x5_1 (ji16))).f2))) (.int .i64 ((rd_T32 l0 (rd x5_1 (ji16))).f3))) (.int .i64 ((rd_T32 l0 (rd x5_1 (ji16))).f4))) (.int .i64 ((rd_T32 l0 (rd x5_1 (ji16))).f5))) (.int .i64 ((rd_T32 l0 (rd x5_1 (ji16))).f6))) (.int .i64 ((rd_T32 l0 (rd x5_1 (ji16))).f7))) (.int .i64 ((rd_T32 l0 (rd x5_1 (ji16))).f8))) (.int .i64 ((rd_T32 l0 (rd x5_1 (ji16))).f9))) (.int .i64 ((rd_T32 l0 (rd x5_1 (ji16))).f10))) (.slice ((rd_T32 l0 (rd x5_1 (ji16))).f11).A ((rd_T32 l0 (rd x5_1 (ji16))).f11).n ((rd_T32 l0 (rd x5_1 (ji16))).f11).c)) (fun _ hk => trivial)⟩
                       have n1_ : Aside0 (((((((((((((w55.setCell ⟨gb396, 0, none⟩ (.int .i64 ((rd_T32 l0 (rd x5_1 (ji16))).f0))).setCell ⟨gb396, 1, none⟩ (.int .i64 ((rd_T32 l0 (rd x5_1 (ji16))).f1))).setCell ⟨gb396, 2, none⟩ (.int .i64 ((rd_T32 l0 (rd x5_1 (ji16))).f2))).setCell ⟨gb396, 3, none⟩ (.int .i64 ((rd_T32 l0 (rd x5_1 (ji16))).f3))).setCell ⟨gb396, 4, none⟩ (.int .i64 ((rd_T32 l0 (rd x5_1 (ji16))).f4))).setCell ⟨gb396, 5, none⟩ (.int .i64 ((rd_T32 l0 (rd x5_1 (ji16))).f5))).setCell ⟨gb396, 6, none⟩ (.int .i64 ((rd_T32 l0 (rd x5_1 (ji16))).f6))).setCell ⟨gb396, 7, none⟩ (.int .i64 ((rd_T32 l0 (rd x5_1 (ji16))).f7))).setCell ⟨gb396, 8, none⟩ (.int .i64 ((rd_T32 l0 (rd x5_1 (ji16))).f8))).setCell ⟨gb396, 9, none⟩ (.int .i64 ((rd_T32 l0 (rd x5_1 (ji16))).f9))).setCell ⟨gb396, 10, none⟩ (.int .i64 ((rd_T32 l0 (rd x5_1 (ji16))).f10))).setCell ⟨gb396, 11, none⟩ (.slice ((rd_T32 l0 (rd x5_1 (ji16))).f11).A ((rd_T32 l0 (rd x5_1 (ji16))).f11).n ((rd_T32 l0 (rd x5_1 (ji16))).f11).c)).heap[gb393]? = some (.cells (cJ (rd_T32 l0 x6_1)) 32 (0, 0))) := ⟨by (with_reducible repeat first | apply blk_drewN | apply blk_drew | apply blk_alloc); refine blk_far ?_ NB393_396.out _; (with_reducible repeat first | apply blk_drewN | apply blk_drew | apply blk_alloc); refine blk_far ?_ NB393_396.out _; (with_reducible repeat first | apply blk_drewN | apply blk_drew | apply blk_alloc); refine blk_far ?_ NB393_396.out _; (with_reducible repeat first | apply blk_drewN | apply blk_drew | apply blk_alloc); refine blk_far ?_ NB393_396.out _; (with_reducible repeat first | apply blk_drewN | apply blk_drew | apply blk_alloc); refine blk_far ?_ NB393_396.out _; (with_reducible repeat first | apply blk_drewN | apply blk_drew | apply blk_alloc); refine blk_far ?_ NB393_396.out _; (with_reducible repeat first | apply blk_drewN | apply blk_drew | apply blk_alloc); refine blk_far ?_ NB393_396.out _; (with_reducible repeat first | apply blk_drewN | apply blk_drew | apply blk_alloc); refine blk_far ?_ NB393_396.out _; (with_reducible repeat first | apply blk_drewN | apply blk_drew | apply blk_alloc); refine blk_far ?_ NB393_396.out _; (with_reducible repeat first | apply blk_drewN | apply blk_drew | apply blk_alloc); refine blk_far ?_ NB393_396.out _; (with_reducible repeat first | apply blk_drewN | apply blk_drew | apply blk_alloc); refine blk_far ?_ NB393_396.out _; (with_reducible repeat first | apply blk_drewN | apply blk_drew | apply blk_alloc); refine blk_far ?_ NB393_396.out _; (with_reducible repeat first | apply blk_drewN | apply blk_drew | apply blk_alloc); exact BK393.out⟩
                       have n2_ : Aside0 (((((((((((((w55.setCell ⟨gb396, 0, none⟩ (.int .i64 ((rd_T32 l0 (rd x5_1 (ji16))).f0))).setCell ⟨gb396, 1, none⟩ (.int .i64 ((rd_T32 l0 (rd x5_1 (ji16))).f1))).setCell ⟨gb396, 2, none⟩ (.int .i64 ((rd_T32 l0 (rd x5_1 (ji16))).f2))).setCell ⟨gb396, 3, none⟩ (.int .i64 ((rd_T32 l0 (rd x5_1 (ji16))).f3))).setCell ⟨gb396, 4, none⟩ (.int .i64 ((rd_T32 l0 (rd x5_1 (ji16))).f4))).setCell ⟨gb396, 5, none⟩ (.int .i64 ((rd_T32 l0 (rd x5_1 (ji16))).f5))).setCell ⟨gb396, 6, none⟩ (.int .i64 ((rd_T32 l0 (rd x5_1 (ji16))).f6))).setCell ⟨gb396, 7, none⟩ (.int .i64 ((rd_T32 l0 (rd x5_1 (ji16))).f7))).setCell ⟨gb396, 8, none⟩ (.int .i64 ((rd_T32 l0 (rd x5_1 (ji16))).f8))).setCell ⟨gb396, 9, none⟩ (.int .i64 ((rd_T32 l0 (rd x5_1 (ji16))).f9))).setCell ⟨gb396, 10, none⟩ (.int .i64 ((rd_T32 l0 (rd x5_1 (ji16))).f10))).setCell ⟨gb396, 11, none⟩ (.slice ((rd_T32 l0 (rd x5_1 (ji16))).f11).A ((rd_T32 l0 (rd x5_1 (ji16))).f11).n ((rd_T32 l0 (rd x5_1 (ji16))).f11).c)).heap[gb396]? = some (.cells (cJ (rd_T32 l0 (rd x5_1 (ji16)))) 32 (0, 0))) := ⟨by (with_reducible repeat first | apply blk_drewN | apply blk_drew | apply blk_alloc); refine blk_put (cs := #[.int .i64 ((rd_T32 l0 (rd x5_1 (ji16))).f0), .int .i64 ((rd_T32 l0 (rd x5_1 (ji16))).f1), .int .i64 ((rd_T32 l0 (rd x5_1 (ji16))).f2), .int .i64 ((rd_T32 l0 (rd x5_1 (ji16))).f3), .int .i64 ((rd_T32 l0 (rd x5_1 (ji16))).f4), .int .i64 ((rd_T32 l0 (rd x5_1 (ji16))).f5), .int .i64 ((rd_T32 l0 (rd x5_1 (ji16))).f6), .int .i64 ((rd_T32 l0 (rd x5_1 (ji16))).f7), .int .i64 ((rd_T32 l0 (rd x5_1 (ji16))).f8), .int .i64 ((rd_T32 l0 (rd x5_1 (ji16))).f9), .int .i64 ((rd_T32 l0 (rd x5_1 (ji16))).f10), .slice none 0 0]) ?_ 11 _ rfl; (with_reducible repeat first | apply blk_drewN | apply blk_drew | apply blk_alloc); refine blk_put (cs := #[.int .i64 ((rd_T32 l0 (rd x5_1 (ji16))).f0), .int .i64 ((rd_T32 l0 (rd x5_1 (ji16))).f1), .int .i64 ((rd_T32 l0 (rd x5_1 (ji16))).f2), .int .i64 ((rd_T32 l0 (rd x5_1 (ji16))).f3), .int .i64 ((rd_T32 l0 (rd x5_1 (ji16))).f4), .int .i64 ((rd_T32 l0 (rd x5_1 (ji16))).f5), .int .i64 ((rd_T32 l0 (rd x5_1 (ji16))).f6), .int .i64 ((rd_T32 l0 (rd x5_1 (ji16))).f7), .int .i64 ((rd_T32 l0 (rd x5_1 (ji16))).f8), .int .i64 ((rd_T32 l0 (rd x5_1 (ji16))).f9), .int .i64 0, .slice none 0 0]) ?_ 10 _ rfl; (with_reducible repeat first | apply blk_drewN | apply blk_drew | apply blk_alloc); refine blk_put (cs := #[.int .i64 ((rd_T32 l0 (rd x5_1 (ji16))).f0), .int .i64 ((rd_T32 l0 (rd x5_1 (ji16))).f1), .int .i64 ((rd_T32 l0 (rd x5_1 (ji16))).f2), .int .i64 ((rd_T32 l0 (rd x5_1 (ji16))).f3), .int .i64 ((rd_T32 l0 (rd x5_1 (ji16))).f4), .int .i64 ((rd_T32 l0 (rd x5_1 (ji16))).f5), .int .i64 ((rd_T32 l0 (rd x5_1 (ji16))).f6), .int .i64 ((rd_T32 l0 (rd x5_1 (ji16))).f7), .int .i64 ((rd_T32 l0 (rd x5_1 (ji16))).f8), .int .i64 0, .int .i64 0, .slice none 0 0]) ?_ 9 _ rfl; (with_reducible repeat first | apply blk_drewN | apply blk_drew | apply blk_alloc); refine blk_put (cs := #[.int .i64 ((rd_T32 l0 (rd x5_1 (ji16))).f0), .int .i64 ((rd_T32 l0 (rd x5_1 (ji16))).f1), .int .i64 ((rd_T32 l0 (rd x5_1 (ji16))).f2), .int .i64 ((rd_T32 l0 (rd x5_1 (ji16))).f3), .int .i64 ((rd_T32 l0 (rd x5_1 (ji16))).f4), .int .i64 ((rd_T32 l0 (rd x5_1 (ji16))).f5), .int .i64 ((rd_T32 l0 (rd x5_1 (ji16))).f6), .int .i64 ((rd_T32 l0 (rd x5_1 (ji16))).f7), .int .i64 0, .int .i64 0, .int .i64 0, .slice none 0 0]) ?_ 8 _ rfl; (with_reducible repeat first | apply blk_drewN | apply blk_drew | apply blk_alloc); refine blk_put (cs := #[.int .i64 ((rd_T32 l0 (rd x5_1 (ji16))).f0), .int .i64 ((rd_T32 l0 (rd x5_1 (ji16))).f1), .int .i64 ((rd_T32 l0 (rd x5_1 (ji16))).f2), .int .i64 ((rd_T32 l0 (rd x5_1 (ji16))).f3), .int .i64 ((rd_T32 l0 (rd x5_1 (ji16))).f4), .int .i64 ((rd_T32 l0 (rd x5_1 (ji16))).f5), .int .i64 ((rd_T32 l0 (rd x5_1 (ji16))).f6), .int .i64 0, .int .i64 0, .int .i64 0, .int .i64 0, .slice none 0 0]) ?_ 7 _ rfl; (with_reducible repeat first | apply blk_drewN | apply blk_drew | apply blk_alloc); refine blk_put (cs := #[.int .i64 ((rd_T32 l0 (rd x5_1 (ji16))).f0), .int .i64 ((rd_T32 l0 (rd x5_1 (ji16))).f1), .int .i64 ((rd_T32 l0 (rd x5_1 (ji16))).f2), .int .i64 ((rd_T32 l0 (rd x5_1 (ji16))).f3), .int .i64 ((rd_T32 l0 (rd x5_1 (ji16))).f4), .int .i64 ((rd_T32 l0 (rd x5_1 (ji16))).f5), .int .i64 0, .int .i64 0, .int .i64 0, .int .i64 0, .int .i64 0, .slice none 0 0]) ?_ 6 _ rfl; (with_reducible repeat first | apply blk_drewN | apply blk_drew | apply blk_alloc); refine blk_put (cs := #[.int .i64 ((rd_T32 l0 (rd x5_1 (ji16))).f0), .int .i64 ((rd_T32 l0 (rd x5_1 (ji16))).f1), .int .i64 ((rd_T32 l0 (rd x5_1 (ji16))).f2), .int .i64 ((rd_T32 l0 (rd x5_1 (ji16))).f3), .int .i64 ((rd_T32 l0 (rd x5_1 (ji16))).f4), .int .i64 0, .int .i64 0, .int .i64 0, .int .i64 0, .int .i64 0, .int .i64 0, .slice none 0 0]) ?_ 5 _ rfl; (with_reducible repeat first | apply blk_drewN | apply blk_drew | apply blk_alloc); refine blk_put (cs := #[.int .i64 ((rd_T32 l0 (rd x5_1 (ji16))).f0), .int .i64 ((rd_T32 l0 (rd x5_1 (ji16))).f1), .int .i64 ((rd_T32 l0 (rd x5_1 (ji16))).f2), .int .i64 ((rd_T32 l0 (rd x5_1 (ji16))).f3), .int .i64 0, .int .i64 0, .int .i64 0, .int .i64 0, .int .i64 0, .int .i64 0, .int .i64 0, .slice none 0 0]) ?_ 4 _ rfl; (with_reducible repeat first | apply blk_drewN | apply blk_drew | apply blk_alloc); refine blk_put (cs := #[.int .i64 ((rd_T32 l0 (rd x5_1 (ji16))).f0), .int .i64 ((rd_T32 l0 (rd x5_1 (ji16))).f1), .int .i64 ((rd_T32 l0 (rd x5_1 (ji16))).f2), .int .i64 0, .int .i64 0, .int .i64 0, .int .i64 0, .int .i64 0, .int .i64 0, .int .i64 0, .int .i64 0, .slice none 0 0]) ?_ 3 _ rfl; (with_reducible repeat first | apply blk_drewN | apply blk_drew | apply blk_alloc); refine blk_put (cs := #[.int .i64 ((rd_T32 l0 (rd x5_1 (ji16))).f0), .int .i64 ((rd_T32 l0 (rd x5_1 (ji16))).f1), .int .i64 0, .int .i64 0, .int .i64 0, .int .i64 0, .int .i64 0, .int .i64 0, .int .i64 0, .int .i64 0, .int .i64 0, .slice none 0 0]) ?_ 2 _ rfl; (with_reducible repeat first | apply blk_drewN | apply blk_drew | apply blk_alloc); refine blk_put (cs := #[.int .i64 ((rd_T32 l0 (rd x5_1 (ji16))).f0), .int .i64 0, .int .i64 0, .int .i64 0, .int .i64 0, .int .i64 0, .int .i64 0, .int .i64 0, .int .i64 0, .int .i64 0, .int .i64 0, .slice none 0 0]) ?_ 1 _ rfl; (with_reducible repeat first | apply blk_drewN | apply blk_drew | apply blk_alloc); refine blk_put (cs := #[.int .i64 0, .int .i64 0, .int .i64 0, .int .i64 0, .int .i64 0, .int .i64 0, .int .i64 0, .int .i64 0, .int .i64 0, .int .i64 0, .int .i64 0, .slice none 0 0]) ?_ 0 _ rfl; (with_reducible repeat first | apply blk_drewN | apply blk_drew | apply blk_alloc); exact BK396.out⟩
                       have n3_ : Aside0 (Below w.heap.size w ((((((((((((w55.setCell ⟨gb396, 0, none⟩ (.int .i64 ((rd_T32 l0 (rd x5_1 (ji16))).f0))).setCell ⟨gb396, 1, none⟩ (.int .i64 ((rd_T32 l0 (rd x5_1 (ji16))).f1))).setCell ⟨gb396, 2, none⟩ (.int .i64 ((rd_T32 l0 (rd x5_1 (ji16))).f2))).setCell ⟨gb396, 3, none⟩ (.int .i64 ((rd_T32 l0 (rd x5_1 (ji16))).f3))).setCell ⟨gb396, 4, none⟩ (.int .i64 ((rd_T32 l0 (rd x5_1 (ji16))).f4))).setCell ⟨gb396, 5, none⟩ (.int .i64 ((rd_T32 l0 (rd x5_1 (ji16))).f5))).setCell ⟨gb396, 6, none⟩ (.int .i64 ((rd_T32 l0 (rd x5_1 (ji16))).f6))).setCell ⟨gb396, 7, none⟩ (.int .i64 ((rd_T32 l0 (rd x5_1 (ji16))).f7))).setCell ⟨gb396, 8, none⟩ (.int .i64 ((rd_T32 l0 (rd x5_1 (ji16))).f8))).setCell ⟨gb396, 9, none⟩ (.int .i64 ((rd_T32 l0 (rd x5_1 (ji16))).f9))).setCell ⟨gb396, 10, none⟩ (.int .i64 ((rd_T32 l0 (rd x5_1 (ji16))).f10))).setCell ⟨gb396, 11, none⟩ (.slice ((rd_T32 l0 (rd x5_1 (ji16))).f11).A ((rd_T32 l0 (rd x5_1 (ji16))).f11).n ((rd_T32 l0 (rd x5_1 (ji16))).f11).c))) := ⟨mBs HB.out⟩
                       (try clear HO_5); (try clear BK393); (try clear BK396); (try clear HB)
                       generalize ((((((((((((w55.setCell ⟨gb396, 0, none⟩ (.int .i64 ((rd_T32 l0 (rd x5_1 (ji16))).f0))).setCell ⟨gb396, 1, none⟩ (.int .i64 ((rd_T32 l0 (rd x5_1 (ji16))).f1))).setCell ⟨gb396, 2, none⟩ (.int .i64 ((rd_T32 l0 (rd x5_1 (ji16))).f2))).setCell ⟨gb396, 3, none⟩ (.int .i64 ((rd_T32 l0 (rd x5_1 (ji16))).f3))).setCell ⟨gb396, 4, none⟩ (.int .i64 ((rd_T32 l0 (rd x5_1 (ji16))).f4))).setCell ⟨gb396, 5, none⟩ (.int .i64 ((rd_T32 l0 (rd x5_1 (ji16))).f5))).setCell ⟨gb396, 6, none⟩ (.int .i64 ((rd_T32 l0 (rd x5_1 (ji16))).f6))).setCell ⟨gb396, 7, none⟩ (.int .i64 ((rd_T32 l0 (rd x5_1 (ji16))).f7))).setCell ⟨gb396, 8, none⟩ (.int .i64 ((rd_T32 l0 (rd x5_1 (ji16))).f8))).setCell ⟨gb396, 9, none⟩ (.int .i64 ((rd_T32 l0 (rd x5_1 (ji16))).f9))).setCell ⟨gb396, 10, none⟩ (.int .i64 ((rd_T32 l0 (rd x5_1 (ji16))).f10))).setCell ⟨gb396, 11, none⟩ (.slice ((rd_T32 l0 (rd x5_1 (ji16))).f11).A ((rd_T32 l0 (rd x5_1 (ji16))).f11).n ((rd_T32 l0 (rd x5_1 (ji16))).f11).c)) = w59 at n0_ n1_ n2_ n3_ ⊢
                       have HO_5 := n0_
                       have BK393 := n1_
                       have BK396 := n2_
                       have HB := n3_
                       clear n0_; clear n1_; clear n2_; clear n3_
                       have n0_ := Aside0.mk (Kd.R_drew HO_5.out)
                       have n1_ := Aside0.mk (blk_drew BK393.out)
                       have n2_ := Aside0.mk (blk_drew BK396.out)
                       have n3_ := Aside0.mk (below_drew1 HB.out)
                       clear HO_5; clear BK393; clear BK396; clear HB
                       have HO_5 := n0_
                       have BK393 := n1_
                       have BK396 := n2_
                       have HB := n3_
                       clear n0_; clear n1_; clear n2_; clear n3_
                       have q61 : (x8_3 : Int) ≤ ((x5_1.length : Int) : Int) := oda
                       obtain ⟨i061, hi061, _, hsz61, _⟩ := info_parts info3
                       have hroom61 : x5_1.length ≤ co14 := (Kd.R_reads' HO_5.out).2.1
                       have hC61 : Kd.C (Kd.int .i64) _ (some ad394) x5_1.length x5_1 := (Kd.R_reads' HO_5.out).2.2
                       have hcut61 := cut_to (P := Try.prog) 24 3 .i64 Try.underlying24 hi061 (some ad394) x5_1.length co14 x8_3 (oda) q61 hroom61
                       have hr61 := Kd.C_take (m := (x8_3 : Int).toNat) hC61 (by omega)
                       have hy61 : y423.length = (x8_3 : Int).toNat := (by rw [Ny423.out, List.length_take]; omega)
                       rw [← Ny423.out] at hr61
                       rw [← hy61] at hcut61
                       have HR426 := Aside0.mk hr61
                       have HC426 := Aside0.mk (show y423.length ≤ co14 from by omega)
                       clear hr61; clear hC61; clear hroom61; clear hi061; clear hsz61
                       have KY61 := Aside0.mk hy61
                       clear hy61
                       have KL61 := Aside0.mk (show (x8_3 : Int).toNat ≤ x5_1.length from by omega)
                       replace q61 := eq_true q61
                       have q62 : (x8_3 : Int) ≤ ((x5_1.length : Int) : Int) := oda
                       obtain ⟨i062, hi062, _, hsz62, _⟩ := info_parts info3
                       have hroom62 : x5_1.length ≤ co14 := (Kd.R_reads' HO_5.out).2.1
                       have hC62 : Kd.C (Kd.int .i64) _ (some ad394) x5_1.length x5_1 := (Kd.R_reads' HO_5.out).2.2
                       have q062 : (0 : Int) ≤ (x8_3 : Int) := oda
                       have hcut62 := cut_from (P := Try.prog) 24 3 .i64 Try.underlying24 hi062 1 hsz62 (some ad394) x5_1.length co14 x8_3 q062 q62
                       have hr62 := Kd.C_drop (m := (x8_3 : Int).toNat) (c := co14) hC62 (by omega) hroom62
                       obtain ⟨A62, hA62⟩ : ∃ A1, A1 = (if co14 = (x8_3 : Int).toNat then (some ad394) else ((some ad394) : Option Addr).map (·.add ((x8_3 : Int).toNat * 1))) := ⟨_, rfl⟩
                       obtain ⟨c62, hc62⟩ : ∃ c1, c1 = co14 - (x8_3 : Int).toNat := ⟨_, rfl⟩
                       have hy62 : y436.length = x5_1.length - (x8_3 : Int).toNat := (by rw [Ny436.out, List.length_drop] <;> omega)
                       rw [show (x5_1).drop (x8_3 : Int).toNat = y436 from Ny436.out.symm] at hr62
                       replace hr62 : Kd.C (Kd.int .i64) _ A62 y436.length y436 := (by rw [hA62]; exact hr62)
                       rw [← hy62, ← hA62, ← hc62] at hcut62
                       have HR439 := Aside0.mk hr62
                       have HC439 := Aside0.mk (show y436.length ≤ c62 from by rw [hy62, hc62]; exact Nat.sub_le_sub_right hroom62 _)
                       clear hr62; clear hC62; clear hroom62; clear hi062; clear hsz62; clear hc62
                       have KY62 := Aside0.mk hy62
                       have KA62 := Aside0.mk hA62
                       clear hy62; clear hA62
                       have KL62 := Aside0.mk (show (x8_3 : Int).toNat ≤ x5_1.length from by omega)
                       replace q62 := eq_true q62
                       refine start_ (n := 13) (S := fun w' => True) (ds := []) #[false, false, false, false, false, false, false, false, false, false, false, false, false] (by kernel_rfl) rfl rfl trivial (fun hHeld => ?_); refine with_tabW prebendref19_Due.tab12 prebendref19_Due.bits12 (fun HT_ HW_ => ?_)
                       generalize w59.drew = w60 at HO_5 BK393 BK396 HB HR426 HR439 hHeld ⊢
                       refine plan_ [(1, 81), (2, 82), (3, 83), (5, 85), (8, 88), (9, 89), (10, 90)] ?_
                       iterate 7 (refine planP_ (v := ?_) (a' := ?_) rfl rfl (any_of HT_.out (by kernel_rfl)) (fun _ _ _ h => h) (Or.inl ⟨by rfl, ?_⟩) ?_ ?_; rotate_left; (intro w'; go_simp; with_reducible rfl); rotate_left; (simp only [Act.put, List.setIfInBounds_toArray, List.set_cons_zero, List.set_cons_succ, i64_w, i32_w]; rfl))
                       refine planEnd_ ?_
                       refine join_ (σ := Value × Value × Value) 3 #[true, true, true, true, true, true, true, false, true, true, true, false, false] (fun s_ => [(80, s_.1), (84, s_.2.1), (86, s_.2.2)]) (fun s_ w' => (Kd.R (Kd.int .i64) 3 w' w.heap.size (fun k_ => some k_ ≠ (s_.2.2 : Value).ownBlock ∧ some k_ ≠ (.slice (some ad394) x5_1.length co14 : Value).ownBlock) s_.2.1 y427) ∧ (Kd.R (Kd.int .i64) 3 w' w.heap.size (fun k_ => some k_ ≠ (s_.2.1 : Value).ownBlock ∧ some k_ ≠ (.slice (some ad394) x5_1.length co14 : Value).ownBlock) s_.2.2 y430) ∧ (Kd.R (Kd.int .i64) 3 w' w.heap.size (fun k_ => some k_ ≠ (s_.2.1 : Value).ownBlock ∧ some k_ ≠ (s_.2.2 : Value).ownBlock) (.slice (some ad394) x5_1.length co14) x5_1) ∧ (Kd.C (Kd.int .i64) w' (some ad394) y423.length y423) ∧ (Kd.C (Kd.int .i64) w' A62 y436.length y436) ∧ (w'.heap[gb393]? = some (.cells (cJ (rd_T32 l0 x6_1)) 32 (0, 0))) ∧ (w'.heap[gb396]? = some (.cells (cJ (rd_T32 l0 (rd x5_1 (ji16)))) 32 (0, 0))) ∧ (Below w.heap.size w w')) ?_ ?_
                       rotate_left
                       ·intro hCont
                        refine two_ (i := 0) (j := 6) (Ni := some 80) (Nj := some 86) #[true, true, true, true, false, true, false, false, true, true, true, false, false] #[false, true, true, true, false, true, true, false, true, true, true, false, false] rfl rfl rfl rfl (two_of HT_.out (by kernel_rfl)) (by decide) (by decide) (fun K hK => ?_) (fun K hK => ?_)
                        ·skip
                         refine Kd.R_lit_step (Kd.int .i64) _ 3 ?hg (N := 80) ?hd (xs := ([] : List Int)) (inner := []) (ok := fun _ => True) (okp := fun _ => True) ?hr ?hp (fun _ hk => hk) trivial (Below.refl _ _) (Nat.le_refl _) (by simp) ?_; (case hd => rfl); (case hg => rfl); (case hr => first | (go_simp; done) | (go_simp; rfl)); (case hp => exact (Reps.none _ _))
                         intro v421 w63 ho64 hb hg_ hnew_
                         clear hg_; clear hnew_
                         (first | rw [← Ny420.out] at ho64 | (simp only [Int.reduceToNat] at ho64; rw [← Ny420.out] at ho64))
                         have n0_ := Aside0.mk (Kd.R_elder' (mR HO_5.out) (Kd.R_base ho64) hb)
                         have n1_ := Aside0.mk (Kd.R_lower (Kd.R_new' ho64 (Kd.R_lt (mR HO_5.out))) (below_size (mBs HB.out)))
                         have n2_ := Aside0.mk (blk_below (g := gb393) (o := .cells (cJ (rd_T32 l0 x6_1)) 32 (0, 0)) (mBK BK393.out) hb)
                         have n3_ := Aside0.mk (blk_below (g := gb396) (o := .cells (cJ (rd_T32 l0 (rd x5_1 (ji16)))) 32 (0, 0)) (mBK BK396.out) hb)
                         have n4_ := Aside0.mk (Kd.C_below (mC HR426.out) hb)
                         have n5_ := Aside0.mk (Kd.C_below (mC HR439.out) hb)
                         have n6_ := Aside0.mk (below_step (mBs HB.out) hb)
                         clear HO_5; clear BK393; clear BK396; clear HR426; clear HR439; clear HB
                         have HO_5 := n0_
                         have HO422 := n1_
                         have BK393 := n2_
                         have BK396 := n3_
                         have HR426 := n4_
                         have HR439 := n5_
                         have HB := n6_
                         clear n0_; clear n1_; clear n2_; clear n3_; clear n4_; clear n5_; clear n6_; clear hb; clear ho64
                         refine hK.out _ _ trivial (fun hHeld => ?_)
                         clear hK; clear K
                         refine norm_ (a' := ?_) ?_ ?_
                         rotate_left
                         ·show Act.put _ (some 80) _ = _
                          simp only [Act.put, List.setIfInBounds_toArray, List.set_cons_zero, List.set_cons_succ, i64_w, i32_w]
                          rfl
                         refine two_ (i := 4) (j := 6) (Ni := some 84) (Nj := some 86) #[true, true, true, true, true, true, false, false, true, true, true, false, false] #[true, true, true, true, false, true, true, false, true, true, true, false, false] rfl rfl rfl rfl (two_of HT_.out (by kernel_rfl)) (by decide) (by decide) (fun K hK => ?_) (fun K hK => ?_)
                         ·skip
                          refine Kd.R_append_rows_step (Kd.int .i64) (w0 := w) w.heap.size (by rfl) (.tmp 80) (.tmp 83) 24 3 (.int .i64 0) 8 rfl Try.underlying24 info3 rfl (by decide) (by omega) v421 y420 y423 _ _ _ (fun k_ => some k_ ≠ (.slice (some ad394) x5_1.length co14 : Value).ownBlock) (fun _ => False) rfl rfl ?aO ?aR (fun _ _ h => h) (fun _ h => h.elim) ?aF ?aB ?aS ?aL ?_
                          (case aR => repeat (first | exact (mC HR426.out) | (with_reducible refine Kd.C_alloc ?_ _) | (with_reducible refine Kd.C_drewN ?_ _) | (with_reducible refine Kd.C_drew ?_)))
                          (case aB => exact (mBs HB.out))
                          (case aF => exact (fun k_ hk => Kd.fresh' (Kd.R_lt (mR HO_5.out)) k_ hk))
                          (case aO => exact (by (with_reducible repeat (first | apply Kd.R_alloc | apply Kd.R_drewN | apply Kd.R_drew)); exact Kd.R_mono HO422.out (fun _ hk => hk.2)))
                          (case aS => exact (below_size (mBs HB.out)))
                          (case aL => have := LMc50.out; omega)
                          intro v428 w65 ho hb hg hat
                          rw [← Ny427.out] at ho
                          have n0_ := Aside0.mk (Kd.R_after (ok := (fun _ => True)) (mR HO_5.out) hg hat)
                          have n1_ := Aside0.mk (blk_grown (g := gb393) (o := .cells (cJ (rd_T32 l0 x6_1)) 32 (0, 0)) (mBK BK393.out) hg (Kd.R_ne HO422.out BK393.out (by decide)))
                          have n2_ := Aside0.mk (blk_grown (g := gb396) (o := .cells (cJ (rd_T32 l0 (rd x5_1 (ji16)))) 32 (0, 0)) (mBK BK396.out) hg (Kd.R_ne HO422.out BK396.out (by decide)))
                          have n3_ := Aside0.mk (hb)
                          have n4_ := Aside0.mk ((show Kd.C (Kd.int .i64) w65 (some ad394) y423.length y423 from by rw [Ny423.out]; exact Kd.C_take (m := (x8_3 : Int).toNat) ((Kd.R_reads' (Kd.R_after (ok := (fun _ => True)) (mR HO_5.out) hg hat)).2.2) KL61.out))
                          have n5_ := Aside0.mk ((show Kd.C (Kd.int .i64) w65 A62 y436.length y436 from by rw [Ny436.out, KA62.out]; exact Kd.C_drop (m := (x8_3 : Int).toNat) (c := co14) ((Kd.R_reads' (Kd.R_after (ok := (fun _ => True)) (mR HO_5.out) hg hat)).2.2) KL62.out ((Kd.R_reads' (Kd.R_after (ok := (fun _ => True)) (mR HO_5.out) hg hat)).2.1)))
                          have n6_ := Aside0.mk (ho)
                          clear HO_5; clear BK393; clear BK396; clear HB; clear HR426; clear HR439; clear HO422
                          have HO_5 := n0_
                          have BK393 := n1_
                          have BK396 := n2_
                          have HB := n3_
                          have HR426 := n4_
                          have HR439 := n5_
                          have HO429 := n6_
                          clear n0_; clear n1_; clear n2_; clear n3_; clear n4_; clear n5_; clear n6_; clear ho; clear hb; clear hg; clear hat
                          refine hK.out _ _ trivial (fun hHeld => ?_)
                          clear hK; clear K
                          refine norm_ (a' := ?_) ?_ ?_
                          rotate_left
                          ·show Act.put _ (some 84) _ = _
                           simp only [Act.put, List.setIfInBounds_toArray, List.set_cons_zero, List.set_cons_succ, i64_w, i32_w]
                           rfl
                          refine one_ (i := 6) (N := some 86) #[true, true, true, true, true, true, true, false, true, true, true, false, false] rfl rfl (one_of HT_.out (by kernel_rfl)) (by decide) (fun K hK => ?_)
                          refine Kd.R_lit_step (Kd.int .i64) _ 3 ?hg (N := 86) ?hd (xs := ([x6_1] : List Int)) (inner := [.int .i64 x6_1]) (ok := fun _ => True) (okp := fun _ => True) ?hr ?hp (fun _ hk => hk) trivial (Below.refl _ _) (Nat.le_refl _) (by simp) ?_; (case hd => rfl); (case hg => rfl); (case hr => first | (go_simp; done) | (go_simp; rfl)); (case hp => exact (Reps.one (show Kd.M (Kd.int .i64) _ _ _ x6_1 [.int .i64 x6_1] from rfl) (Reps.none _ _)))
                          intro v431 w66 ho67 hb hg_ hnew_
                          clear hg_; clear hnew_
                          (first | rw [← Ny430.out] at ho67 | (simp only [Int.reduceToNat] at ho67; rw [← Ny430.out] at ho67))
                          have n0_ := Aside0.mk (Kd.R_elder' (mR HO_5.out) (Kd.R_base ho67) hb)
                          have n1_ := Aside0.mk (Kd.R_elder' (mR HO429.out) (Kd.R_base ho67) hb)
                          have n2_ := Aside0.mk (Kd.R_lower (Kd.R_new' (Kd.R_new' ho67 (Kd.R_lt (mR HO_5.out))) (Kd.R_lt (mR HO429.out))) (below_size (mBs HB.out)))
                          have n3_ := Aside0.mk (blk_below (g := gb393) (o := .cells (cJ (rd_T32 l0 x6_1)) 32 (0, 0)) (mBK BK393.out) hb)
                          have n4_ := Aside0.mk (blk_below (g := gb396) (o := .cells (cJ (rd_T32 l0 (rd x5_1 (ji16)))) 32 (0, 0)) (mBK BK396.out) hb)
                          have n5_ := Aside0.mk (Kd.C_below (mC HR426.out) hb)
                          have n6_ := Aside0.mk (Kd.C_below (mC HR439.out) hb)
                          have n7_ := Aside0.mk (below_step (mBs HB.out) hb)
                          clear HO_5; clear HO429; clear BK393; clear BK396; clear HR426; clear HR439; clear HB
                          have HO_5 := n0_
                          have HO429 := n1_
                          have HO432 := n2_
                          have BK393 := n3_
                          have BK396 := n4_
                          have HR426 := n5_
                          have HR439 := n6_
                          have HB := n7_
                          clear n0_; clear n1_; clear n2_; clear n3_; clear n4_; clear n5_; clear n6_; clear n7_; clear hb; clear ho67
                          refine hK.out _ _ trivial (fun hHeld => ?_)
                          clear hK; clear K
                          refine norm_ (a' := ?_) ?_ ?_
                          rotate_left
                          ·show Act.put _ (some 86) _ = _
                           simp only [Act.put, List.setIfInBounds_toArray, List.set_cons_zero, List.set_cons_succ, i64_w, i32_w]
                           rfl
                          exact norm_ (by simp only [putAll, Act.put, List.setIfInBounds_toArray, List.set_cons_zero, List.set_cons_succ]) (hCont (v421, v428, v431) _ ⟨(by (with_reducible repeat (first | apply Kd.R_alloc | apply Kd.R_drewN | apply Kd.R_drew)); exact Kd.R_mono HO429.out (fun _ hk => ⟨hk.2, hk.1⟩)), (by (with_reducible repeat (first | apply Kd.R_alloc | apply Kd.R_drewN | apply Kd.R_drew)); exact Kd.R_mono HO432.out (fun _ hk => ⟨hk.2, hk.1.2⟩)), (by (with_reducible repeat (first | apply Kd.R_alloc | apply Kd.R_drewN | apply Kd.R_drew)); exact Kd.R_mono HO_5.out (fun _ hk => ⟨hk.1.2, hk.2⟩)), (mC HR426.out), (mC HR439.out), (mBK BK393.out), (mBK BK396.out), (mBs HB.out)⟩)
                         ·skip
                          refine Kd.R_lit_step (Kd.int .i64) _ 3 ?hg (N := 86) ?hd (xs := ([x6_1] : List Int)) (inner := [.int .i64 x6_1]) (ok := fun _ => True) (okp := fun _ => True) ?hr ?hp (fun _ hk => hk) trivial (Below.refl _ _) (Nat.le_refl _) (by simp) ?_; (case hd => rfl); (case hg => rfl); (case hr => first | (go_simp; done) | (go_simp; rfl)); (case hp => exact (Reps.one (show Kd.M (Kd.int .i64) _ _ _ x6_1 [.int .i64 x6_1] from rfl) (Reps.none _ _)))
                          intro v431 w65 ho66 hb hg_ hnew_
                          clear hg_; clear hnew_
                          (first | rw [← Ny430.out] at ho66 | (simp only [Int.reduceToNat] at ho66; rw [← Ny430.out] at ho66))
                          have n0_ := Aside0.mk (Kd.R_elder' (mR HO_5.out) (Kd.R_base ho66) hb)
                          have n1_ := Aside0.mk (Kd.R_elder' (mR HO422.out) (Kd.R_base ho66) hb)
                          have n2_ := Aside0.mk (Kd.R_lower (Kd.R_new' (Kd.R_new' ho66 (Kd.R_lt (mR HO_5.out))) (Kd.R_lt (mR HO422.out))) (below_size (mBs HB.out)))
                          have n3_ := Aside0.mk (blk_below (g := gb393) (o := .cells (cJ (rd_T32 l0 x6_1)) 32 (0, 0)) (mBK BK393.out) hb)
                          have n4_ := Aside0.mk (blk_below (g := gb396) (o := .cells (cJ (rd_T32 l0 (rd x5_1 (ji16)))) 32 (0, 0)) (mBK BK396.out) hb)
                          have n5_ := Aside0.mk (Kd.C_below (mC HR426.out) hb)
                          have n6_ := Aside0.mk (Kd.C_below (mC HR439.out) hb)
                          have n7_ := Aside0.mk (below_step (mBs HB.out) hb)
                          clear HO_5; clear HO422; clear BK393; clear BK396; clear HR426; clear HR439; clear HB
                          have HO_5 := n0_
                          have HO422 := n1_
                          have HO432 := n2_
                          have BK393 := n3_
                          have BK396 := n4_
                          have HR426 := n5_
                          have HR439 := n6_
                          have HB := n7_
                          clear n0_; clear n1_; clear n2_; clear n3_; clear n4_; clear n5_; clear n6_; clear n7_; clear hb; clear ho66
                          refine hK.out _ _ trivial (fun hHeld => ?_)
                          clear hK; clear K
                          refine norm_ (a' := ?_) ?_ ?_
                          rotate_left
                          ·show Act.put _ (some 86) _ = _
                           simp only [Act.put, List.setIfInBounds_toArray, List.set_cons_zero, List.set_cons_succ, i64_w, i32_w]
                           rfl
                          refine one_ (i := 4) (N := some 84) #[true, true, true, true, true, true, true, false, true, true, true, false, false] rfl rfl (one_of HT_.out (by kernel_rfl)) (by decide) (fun K hK => ?_)
                          refine Kd.R_append_rows_step (Kd.int .i64) (w0 := w) w.heap.size (by rfl) (.tmp 80) (.tmp 83) 24 3 (.int .i64 0) 8 rfl Try.underlying24 info3 rfl (by decide) (by omega) v421 y420 y423 _ _ _ (fun k_ => some k_ ≠ (.slice (some ad394) x5_1.length co14 : Value).ownBlock ∧ some k_ ≠ (v431 : Value).ownBlock) (fun _ => False) rfl rfl ?aO ?aR (fun _ _ h => h) (fun _ h => h.elim) ?aF ?aB ?aS ?aL ?_
                          (case aR => repeat (first | exact (mC HR426.out) | (with_reducible refine Kd.C_alloc ?_ _) | (with_reducible refine Kd.C_drewN ?_ _) | (with_reducible refine Kd.C_drew ?_)))
                          (case aB => exact (mBs HB.out))
                          (case aF => exact (fun k_ hk => ⟨Kd.fresh' (Kd.R_lt (mR HO_5.out)) k_ hk, Kd.fresh' (Kd.R_lt (mR HO432.out)) k_ hk⟩))
                          (case aO => exact (by (with_reducible repeat (first | apply Kd.R_alloc | apply Kd.R_drewN | apply Kd.R_drew)); exact Kd.R_mono HO422.out (fun _ hk => ⟨hk.1.2, hk.2⟩)))
                          (case aS => exact (below_size (mBs HB.out)))
                          (case aL => have := LMc50.out; omega)
                          intro v428 w67 ho hb hg hat
                          rw [← Ny427.out] at ho
                          have n0_ := Aside0.mk (Kd.R_after (ok := (fun k_ => some k_ ≠ (v431 : Value).ownBlock)) (by (with_reducible repeat (first | apply Kd.R_alloc | apply Kd.R_drewN | apply Kd.R_drew)); exact Kd.R_mono HO_5.out (fun _ hk => ⟨hk.2, hk.1.2⟩)) hg hat)
                          have n1_ := Aside0.mk (blk_grown (g := gb393) (o := .cells (cJ (rd_T32 l0 x6_1)) 32 (0, 0)) (mBK BK393.out) hg (Kd.R_ne HO422.out BK393.out (by decide)))
                          have n2_ := Aside0.mk (blk_grown (g := gb396) (o := .cells (cJ (rd_T32 l0 (rd x5_1 (ji16)))) 32 (0, 0)) (mBK BK396.out) hg (Kd.R_ne HO422.out BK396.out (by decide)))
                          have n3_ := Aside0.mk (Kd.R_after (ok := (fun k_ => some k_ ≠ (.slice (some ad394) x5_1.length co14 : Value).ownBlock)) (by (with_reducible repeat (first | apply Kd.R_alloc | apply Kd.R_drewN | apply Kd.R_drew)); exact Kd.R_mono HO432.out (fun _ hk => ⟨hk.1.2, hk.2⟩)) hg hat)
                          have n4_ := Aside0.mk (hb)
                          have n5_ := Aside0.mk ((show Kd.C (Kd.int .i64) w67 (some ad394) y423.length y423 from by rw [Ny423.out]; exact Kd.C_take (m := (x8_3 : Int).toNat) ((Kd.R_reads' (Kd.R_after (ok := (fun k_ => some k_ ≠ (v431 : Value).ownBlock)) (by (with_reducible repeat (first | apply Kd.R_alloc | apply Kd.R_drewN | apply Kd.R_drew)); exact Kd.R_mono HO_5.out (fun _ hk => ⟨hk.2, hk.1.2⟩)) hg hat)).2.2) KL61.out))
                          have n6_ := Aside0.mk ((show Kd.C (Kd.int .i64) w67 A62 y436.length y436 from by rw [Ny436.out, KA62.out]; exact Kd.C_drop (m := (x8_3 : Int).toNat) (c := co14) ((Kd.R_reads' (Kd.R_after (ok := (fun k_ => some k_ ≠ (v431 : Value).ownBlock)) (by (with_reducible repeat (first | apply Kd.R_alloc | apply Kd.R_drewN | apply Kd.R_drew)); exact Kd.R_mono HO_5.out (fun _ hk => ⟨hk.2, hk.1.2⟩)) hg hat)).2.2) KL62.out ((Kd.R_reads' (Kd.R_after (ok := (fun k_ => some k_ ≠ (v431 : Value).ownBlock)) (by (with_reducible repeat (first | apply Kd.R_alloc | apply Kd.R_drewN | apply Kd.R_drew)); exact Kd.R_mono HO_5.out (fun _ hk => ⟨hk.2, hk.1.2⟩)) hg hat)).2.1)))
                          have n7_ := Aside0.mk (ho)
                          clear HO_5; clear BK393; clear BK396; clear HO432; clear HB; clear HR426; clear HR439; clear HO422
                          have HO_5 := n0_
                          have BK393 := n1_
                          have BK396 := n2_
                          have HO432 := n3_
                          have HB := n4_
                          have HR426 := n5_
                          have HR439 := n6_
                          have HO429 := n7_
                          clear n0_; clear n1_; clear n2_; clear n3_; clear n4_; clear n5_; clear n6_; clear n7_; clear ho; clear hb; clear hg; clear hat
                          refine hK.out _ _ trivial (fun hHeld => ?_)
                          clear hK; clear K
                          refine norm_ (a' := ?_) ?_ ?_
                          rotate_left
                          ·show Act.put _ (some 84) _ = _
                           simp only [Act.put, List.setIfInBounds_toArray, List.set_cons_zero, List.set_cons_succ, i64_w, i32_w]
                           rfl
                          exact norm_ (by simp only [putAll, Act.put, List.setIfInBounds_toArray, List.set_cons_zero, List.set_cons_succ]) (hCont (v421, v428, v431) _ ⟨(by (with_reducible repeat (first | apply Kd.R_alloc | apply Kd.R_drewN | apply Kd.R_drew)); exact Kd.R_mono HO429.out (fun _ hk => ⟨hk.2, hk.1⟩)), (by (with_reducible repeat (first | apply Kd.R_alloc | apply Kd.R_drewN | apply Kd.R_drew)); exact Kd.R_mono HO432.out (fun _ hk => ⟨hk.2, hk.1⟩)), (by (with_reducible repeat (first | apply Kd.R_alloc | apply Kd.R_drewN | apply Kd.R_drew)); exact Kd.R_mono HO_5.out (fun _ hk => ⟨hk.2, hk.1⟩)), (mC HR426.out), (mC HR439.out), (mBK BK393.out), (mBK BK396.out), (mBs HB.out)⟩)
                        ·skip
                         refine Kd.R_lit_step (Kd.int .i64) _ 3 ?hg (N := 86) ?hd (xs := ([x6_1] : List Int)) (inner := [.int .i64 x6_1]) (ok := fun _ => True) (okp := fun _ => True) ?hr ?hp (fun _ hk => hk) trivial (Below.refl _ _) (Nat.le_refl _) (by simp) ?_; (case hd => rfl); (case hg => rfl); (case hr => first | (go_simp; done) | (go_simp; rfl)); (case hp => exact (Reps.one (show Kd.M (Kd.int .i64) _ _ _ x6_1 [.int .i64 x6_1] from rfl) (Reps.none _ _)))
                         intro v431 w63 ho64 hb hg_ hnew_
                         clear hg_; clear hnew_
                         (first | rw [← Ny430.out] at ho64 | (simp only [Int.reduceToNat] at ho64; rw [← Ny430.out] at ho64))
                         have n0_ := Aside0.mk (Kd.R_elder' (mR HO_5.out) (Kd.R_base ho64) hb)
                         have n1_ := Aside0.mk (Kd.R_lower (Kd.R_new' ho64 (Kd.R_lt (mR HO_5.out))) (below_size (mBs HB.out)))
                         have n2_ := Aside0.mk (blk_below (g := gb393) (o := .cells (cJ (rd_T32 l0 x6_1)) 32 (0, 0)) (mBK BK393.out) hb)
                         have n3_ := Aside0.mk (blk_below (g := gb396) (o := .cells (cJ (rd_T32 l0 (rd x5_1 (ji16)))) 32 (0, 0)) (mBK BK396.out) hb)
                         have n4_ := Aside0.mk (Kd.C_below (mC HR426.out) hb)
                         have n5_ := Aside0.mk (Kd.C_below (mC HR439.out) hb)
                         have n6_ := Aside0.mk (below_step (mBs HB.out) hb)
                         clear HO_5; clear BK393; clear BK396; clear HR426; clear HR439; clear HB
                         have HO_5 := n0_
                         have HO432 := n1_
                         have BK393 := n2_
                         have BK396 := n3_
                         have HR426 := n4_
                         have HR439 := n5_
                         have HB := n6_
                         clear n0_; clear n1_; clear n2_; clear n3_; clear n4_; clear n5_; clear n6_; clear hb; clear ho64
                         refine hK.out _ _ trivial (fun hHeld => ?_)
                         clear hK; clear K
                         refine norm_ (a' := ?_) ?_ ?_
                         rotate_left
                         ·show Act.put _ (some 86) _ = _
                          simp only [Act.put, List.setIfInBounds_toArray, List.set_cons_zero, List.set_cons_succ, i64_w, i32_w]
                          rfl
                         refine one_ (i := 0) (N := some 80) #[true, true, true, true, false, true, true, false, true, true, true, false, false] rfl rfl (one_of HT_.out (by kernel_rfl)) (by decide) (fun K hK => ?_)
                         refine Kd.R_lit_step (Kd.int .i64) _ 3 ?hg (N := 80) ?hd (xs := ([] : List Int)) (inner := []) (ok := fun _ => True) (okp := fun _ => True) ?hr ?hp (fun _ hk => hk) trivial (Below.refl _ _) (Nat.le_refl _) (by simp) ?_; (case hd => rfl); (case hg => rfl); (case hr => first | (go_simp; done) | (go_simp; rfl)); (case hp => exact (Reps.none _ _))
                         intro v421 w65 ho66 hb hg_ hnew_
                         clear hg_; clear hnew_
                         (first | rw [← Ny420.out] at ho66 | (simp only [Int.reduceToNat] at ho66; rw [← Ny420.out] at ho66))
                         have n0_ := Aside0.mk (Kd.R_elder' (mR HO_5.out) (Kd.R_base ho66) hb)
                         have n1_ := Aside0.mk (Kd.R_elder' (mR HO432.out) (Kd.R_base ho66) hb)
                         have n2_ := Aside0.mk (Kd.R_lower (Kd.R_new' (Kd.R_new' ho66 (Kd.R_lt (mR HO_5.out))) (Kd.R_lt (mR HO432.out))) (below_size (mBs HB.out)))
                         have n3_ := Aside0.mk (blk_below (g := gb393) (o := .cells (cJ (rd_T32 l0 x6_1)) 32 (0, 0)) (mBK BK393.out) hb)
                         have n4_ := Aside0.mk (blk_below (g := gb396) (o := .cells (cJ (rd_T32 l0 (rd x5_1 (ji16)))) 32 (0, 0)) (mBK BK396.out) hb)
                         have n5_ := Aside0.mk (Kd.C_below (mC HR426.out) hb)
                         have n6_ := Aside0.mk (Kd.C_below (mC HR439.out) hb)
                         have n7_ := Aside0.mk (below_step (mBs HB.out) hb)
                         clear HO_5; clear HO432; clear BK393; clear BK396; clear HR426; clear HR439; clear HB
                         have HO_5 := n0_
                         have HO432 := n1_
                         have HO422 := n2_
                         have BK393 := n3_
                         have BK396 := n4_
                         have HR426 := n5_
                         have HR439 := n6_
                         have HB := n7_
                         clear n0_; clear n1_; clear n2_; clear n3_; clear n4_; clear n5_; clear n6_; clear n7_; clear hb; clear ho66
                         refine hK.out _ _ trivial (fun hHeld => ?_)
                         clear hK; clear K
                         refine norm_ (a' := ?_) ?_ ?_
                         rotate_left
                         ·show Act.put _ (some 80) _ = _
                          simp only [Act.put, List.setIfInBounds_toArray, List.set_cons_zero, List.set_cons_succ, i64_w, i32_w]
                          rfl
                         refine one_ (i := 4) (N := some 84) #[true, true, true, true, true, true, true, false, true, true, true, false, false] rfl rfl (one_of HT_.out (by kernel_rfl)) (by decide) (fun K hK => ?_)
                         refine Kd.R_append_rows_step (Kd.int .i64) (w0 := w) w.heap.size (by rfl) (.tmp 80) (.tmp 83) 24 3 (.int .i64 0) 8 rfl Try.underlying24 info3 rfl (by decide) (by omega) v421 y420 y423 _ _ _ (fun k_ => some k_ ≠ (.slice (some ad394) x5_1.length co14 : Value).ownBlock ∧ some k_ ≠ (v431 : Value).ownBlock) (fun _ => False) rfl rfl ?aO ?aR (fun _ _ h => h) (fun _ h => h.elim) ?aF ?aB ?aS ?aL ?_
                         (case aR => repeat (first | exact (mC HR426.out) | (with_reducible refine Kd.C_alloc ?_ _) | (with_reducible refine Kd.C_drewN ?_ _) | (with_reducible refine Kd.C_drew ?_)))
                         (case aB => exact (mBs HB.out))
                         (case aF => exact (fun k_ hk => ⟨Kd.fresh' (Kd.R_lt (mR HO_5.out)) k_ hk, Kd.fresh' (Kd.R_lt (mR HO432.out)) k_ hk⟩))
                         (case aO => exact (by (with_reducible repeat (first | apply Kd.R_alloc | apply Kd.R_drewN | apply Kd.R_drew)); exact Kd.R_mono HO422.out (fun _ hk => ⟨hk.1.2, hk.2⟩)))
                         (case aS => exact (below_size (mBs HB.out)))
                         (case aL => have := LMc50.out; omega)
                         intro v428 w67 ho hb hg hat
                         rw [← Ny427.out] at ho
                         have n0_ := Aside0.mk (Kd.R_after (ok := (fun k_ => some k_ ≠ (v431 : Value).ownBlock)) (by (with_reducible repeat (first | apply Kd.R_alloc | apply Kd.R_drewN | apply Kd.R_drew)); exact Kd.R_mono HO_5.out (fun _ hk => ⟨hk.1.2, hk.2⟩)) hg hat)
                         have n1_ := Aside0.mk (blk_grown (g := gb393) (o := .cells (cJ (rd_T32 l0 x6_1)) 32 (0, 0)) (mBK BK393.out) hg (Kd.R_ne HO422.out BK393.out (by decide)))
                         have n2_ := Aside0.mk (blk_grown (g := gb396) (o := .cells (cJ (rd_T32 l0 (rd x5_1 (ji16)))) 32 (0, 0)) (mBK BK396.out) hg (Kd.R_ne HO422.out BK396.out (by decide)))
                         have n3_ := Aside0.mk (Kd.R_after (ok := (fun k_ => some k_ ≠ (.slice (some ad394) x5_1.length co14 : Value).ownBlock)) (by (with_reducible repeat (first | apply Kd.R_alloc | apply Kd.R_drewN | apply Kd.R_drew)); exact Kd.R_mono HO432.out (fun _ hk => ⟨hk.1.2, hk.2⟩)) hg hat)
                         have n4_ := Aside0.mk (hb)
                         have n5_ := Aside0.mk ((show Kd.C (Kd.int .i64) w67 (some ad394) y423.length y423 from by rw [Ny423.out]; exact Kd.C_take (m := (x8_3 : Int).toNat) ((Kd.R_reads' (Kd.R_after (ok := (fun k_ => some k_ ≠ (v431 : Value).ownBlock)) (by (with_reducible repeat (first | apply Kd.R_alloc | apply Kd.R_drewN | apply Kd.R_drew)); exact Kd.R_mono HO_5.out (fun _ hk => ⟨hk.1.2, hk.2⟩)) hg hat)).2.2) KL61.out))
                         have n6_ := Aside0.mk ((show Kd.C (Kd.int .i64) w67 A62 y436.length y436 from by rw [Ny436.out, KA62.out]; exact Kd.C_drop (m := (x8_3 : Int).toNat) (c := co14) ((Kd.R_reads' (Kd.R_after (ok := (fun k_ => some k_ ≠ (v431 : Value).ownBlock)) (by (with_reducible repeat (first | apply Kd.R_alloc | apply Kd.R_drewN | apply Kd.R_drew)); exact Kd.R_mono HO_5.out (fun _ hk => ⟨hk.1.2, hk.2⟩)) hg hat)).2.2) KL62.out ((Kd.R_reads' (Kd.R_after (ok := (fun k_ => some k_ ≠ (v431 : Value).ownBlock)) (by (with_reducible repeat (first | apply Kd.R_alloc | apply Kd.R_drewN | apply Kd.R_drew)); exact Kd.R_mono HO_5.out (fun _ hk => ⟨hk.1.2, hk.2⟩)) hg hat)).2.1)))
                         have n7_ := Aside0.mk (ho)
                         clear HO_5; clear BK393; clear BK396; clear HO432; clear HB; clear HR426; clear HR439; clear HO422
                         have HO_5 := n0_
                         have BK393 := n1_
                         have BK396 := n2_
                         have HO432 := n3_
                         have HB := n4_
                         have HR426 := n5_
                         have HR439 := n6_
                         have HO429 := n7_
                         clear n0_; clear n1_; clear n2_; clear n3_; clear n4_; clear n5_; clear n6_; clear n7_; clear ho; clear hb; clear hg; clear hat
                         refine hK.out _ _ trivial (fun hHeld => ?_)
                         clear hK; clear K
                         refine norm_ (a' := ?_) ?_ ?_
                         rotate_left
                         ·show Act.put _ (some 84) _ = _
                          simp only [Act.put, List.setIfInBounds_toArray, List.set_cons_zero, List.set_cons_succ, i64_w, i32_w]
                          rfl
                         exact norm_ (by simp only [putAll, Act.put, List.setIfInBounds_toArray, List.set_cons_zero, List.set_cons_succ]) (hCont (v421, v428, v431) _ ⟨(by (with_reducible repeat (first | apply Kd.R_alloc | apply Kd.R_drewN | apply Kd.R_drew)); exact Kd.R_mono HO429.out (fun _ hk => ⟨hk.2, hk.1⟩)), (by (with_reducible repeat (first | apply Kd.R_alloc | apply Kd.R_drewN | apply Kd.R_drew)); exact Kd.R_mono HO432.out (fun _ hk => ⟨hk.2, hk.1⟩)), (by (with_reducible repeat (first | apply Kd.R_alloc | apply Kd.R_drewN | apply Kd.R_drew)); exact Kd.R_mono HO_5.out (fun _ hk => ⟨hk.2, hk.1⟩)), (mC HR426.out), (mC HR439.out), (mBK BK393.out), (mBK BK396.out), (mBs HB.out)⟩)
                       rintro ⟨v421, v428, v431⟩ w68 ⟨h0_, h1_, h2_, h3_, h4_, h5_, h6_, h7_⟩
                       have n0_ : Aside0 (Kd.R (Kd.int .i64) 3 w68 w.heap.size (fun k_ => some k_ ≠ (v431 : Value).ownBlock ∧ some k_ ≠ (.slice (some ad394) x5_1.length co14 : Value).ownBlock) v428 y427) := ⟨h0_⟩
                       have n1_ : Aside0 (Kd.R (Kd.int .i64) 3 w68 w.heap.size (fun k_ => some k_ ≠ (v428 : Value).ownBlock ∧ some k_ ≠ (.slice (some ad394) x5_1.length co14 : Value).ownBlock) v431 y430) := ⟨h1_⟩
                       have n2_ : Aside0 (Kd.R (Kd.int .i64) 3 w68 w.heap.size (fun k_ => some k_ ≠ (v428 : Value).ownBlock ∧ some k_ ≠ (v431 : Value).ownBlock) (.slice (some ad394) x5_1.length co14) x5_1) := ⟨h2_⟩
                       have n3_ : Aside0 (Kd.C (Kd.int .i64) w68 (some ad394) y423.length y423) := ⟨h3_⟩
                       have n4_ : Aside0 (Kd.C (Kd.int .i64) w68 A62 y436.length y436) := ⟨h4_⟩
                       have n5_ : Aside0 (w68.heap[gb393]? = some (.cells (cJ (rd_T32 l0 x6_1)) 32 (0, 0))) := ⟨h5_⟩
                       have n6_ : Aside0 (w68.heap[gb396]? = some (.cells (cJ (rd_T32 l0 (rd x5_1 (ji16)))) 32 (0, 0))) := ⟨h6_⟩
                       have n7_ : Aside0 (Below w.heap.size w w68) := ⟨h7_⟩
                       clear HO_5; clear BK393; clear BK396; clear HB; clear h0_; clear h1_; clear h2_; clear h3_; clear h4_; clear h5_; clear h6_; clear h7_
                       have HO429 := n0_
                       have HO432 := n1_
                       have HO_5 := n2_
                       have HR426 := n3_
                       have HR439 := n4_
                       have BK393 := n5_
                       have BK396 := n6_
                       have HB := n7_
                       clear n0_; clear n1_; clear n2_; clear n3_; clear n4_; clear n5_; clear n6_; clear n7_
                       have hHeld := trivial
                       obtain ⟨Ao70, co70, eo70⟩ := Kd.R_slice HO432.out
                       (first | subst eo70 | (injection eo70 with f1_ f2_ f3_; have f4_ := f1_.symm; have f5_ := f3_.symm; clear f1_ f2_ f3_; subst f4_; subst f5_))
                       refine norm_ (a' := ?_) ?_ ?_
                       rotate_left
                       ·simp only [putAll, Act.put, List.setIfInBounds_toArray, List.set_cons_zero, List.set_cons_succ]
                        rfl
                       refine one_ (i := 7) (N := some 87) #[true, true, true, true, true, true, true, true, true, true, true, false, false] rfl rfl (one_of HT_.out (by kernel_rfl)) (by decide) (fun K hK => ?_)
                       refine Kd.R_append_rows_step (Kd.int .i64) (w0 := w) w.heap.size (by rfl) (.tmp 84) (.tmp 86) 24 3 (.int .i64 0) 8 rfl Try.underlying24 info3 rfl (by decide) (by omega) v428 y427 y430 _ _ _ (fun k_ => some k_ ≠ (.slice (some ad394) x5_1.length co14 : Value).ownBlock ∧ some k_ ≠ (.slice Ao70 y430.length co70 : Value).ownBlock) (fun _ => False) rfl rfl ?aO ?aR (fun _ _ h => h) (fun _ h => h.elim) ?aF ?aB ?aS ?aL ?_
                       (case aR => repeat (first | exact (Kd.R_reads' HO432.out).2.2 | (with_reducible refine Kd.C_alloc ?_ _) | (with_reducible refine Kd.C_drewN ?_ _) | (with_reducible refine Kd.C_drew ?_)))
                       (case aB => exact (mBs HB.out))
                       (case aF => exact (fun k_ hk => ⟨Kd.fresh' (Kd.R_lt (mR HO_5.out)) k_ hk, Kd.fresh' (Kd.R_lt (mR HO432.out)) k_ hk⟩))
                       (case aO => exact (by (with_reducible repeat (first | apply Kd.R_alloc | apply Kd.R_drewN | apply Kd.R_drew)); exact Kd.R_mono HO429.out (fun _ hk => ⟨hk.2, hk.1⟩)))
                       (case aS => exact (below_size (mBs HB.out)))
                       (case aL => have := LMc51.out; omega)
                       intro v434 w69 ho hb hg hat
                       rw [← Ny433.out] at ho
                       have n0_ := Aside0.mk (Kd.R_after (ok := (fun k_ => some k_ ≠ (.slice Ao70 y430.length co70 : Value).ownBlock)) (by (with_reducible repeat (first | apply Kd.R_alloc | apply Kd.R_drewN | apply Kd.R_drew)); exact Kd.R_mono HO_5.out (fun _ hk => ⟨hk.2, hk.1⟩)) hg hat)
                       have n1_ := Aside0.mk (blk_grown (g := gb393) (o := .cells (cJ (rd_T32 l0 x6_1)) 32 (0, 0)) (mBK BK393.out) hg (Kd.R_ne HO429.out BK393.out (by decide)))
                       have n2_ := Aside0.mk (blk_grown (g := gb396) (o := .cells (cJ (rd_T32 l0 (rd x5_1 (ji16)))) 32 (0, 0)) (mBK BK396.out) hg (Kd.R_ne HO429.out BK396.out (by decide)))
                       have n3_ := Aside0.mk (Kd.R_after (ok := (fun k_ => some k_ ≠ (.slice (some ad394) x5_1.length co14 : Value).ownBlock)) (by (with_reducible repeat (first | apply Kd.R_alloc | apply Kd.R_drewN | apply Kd.R_drew)); exact Kd.R_mono HO432.out (fun _ hk => ⟨hk.2, hk.1⟩)) hg hat)
                       have n4_ := Aside0.mk (hb)
                       have n5_ := Aside0.mk ((show Kd.C (Kd.int .i64) w69 (some ad394) y423.length y423 from by rw [Ny423.out]; exact Kd.C_take (m := (x8_3 : Int).toNat) ((Kd.R_reads' (Kd.R_after (ok := (fun k_ => some k_ ≠ (.slice Ao70 y430.length co70 : Value).ownBlock)) (by (with_reducible repeat (first | apply Kd.R_alloc | apply Kd.R_drewN | apply Kd.R_drew)); exact Kd.R_mono HO_5.out (fun _ hk => ⟨hk.2, hk.1⟩)) hg hat)).2.2) KL61.out))
                       have n6_ := Aside0.mk ((show Kd.C (Kd.int .i64) w69 A62 y436.length y436 from by rw [Ny436.out, KA62.out]; exact Kd.C_drop (m := (x8_3 : Int).toNat) (c := co14) ((Kd.R_reads' (Kd.R_after (ok := (fun k_ => some k_ ≠ (.slice Ao70 y430.length co70 : Value).ownBlock)) (by (with_reducible repeat (first | apply Kd.R_alloc | apply Kd.R_drewN | apply Kd.R_drew)); exact Kd.R_mono HO_5.out (fun _ hk => ⟨hk.2, hk.1⟩)) hg hat)).2.2) KL62.out ((Kd.R_reads' (Kd.R_after (ok := (fun k_ => some k_ ≠ (.slice Ao70 y430.length co70 : Value).ownBlock)) (by (with_reducible repeat (first | apply Kd.R_alloc | apply Kd.R_drewN | apply Kd.R_drew)); exact Kd.R_mono HO_5.out (fun _ hk => ⟨hk.2, hk.1⟩)) hg hat)).2.1)))
                       have n7_ := Aside0.mk (ho)
                       clear HO_5; clear BK393; clear BK396; clear HO432; clear HB; clear HR426; clear HR439; clear HO429
                       have HO_5 := n0_
                       have BK393 := n1_
                       have BK396 := n2_
                       have HO432 := n3_
                       have HB := n4_
                       have HR426 := n5_
                       have HR439 := n6_
                       have HO435 := n7_
                       clear n0_; clear n1_; clear n2_; clear n3_; clear n4_; clear n5_; clear n6_; clear n7_; clear ho; clear hb; clear hg; clear hat
                       refine hK.out _ _ trivial (fun hHeld => ?_)
                       clear hK; clear K
                       refine norm_ (a' := ?_) ?_ ?_
                       rotate_left
                       ·show Act.put _ (some 87) _ = _
                        simp only [Act.put, List.setIfInBounds_toArray, List.set_cons_zero, List.set_cons_succ, i64_w, i32_w]
                        rfl
                       refine one_ (i := 11) (N := some 91) #[true, true, true, true, true, true, true, true, true, true, true, true, false] rfl rfl (one_of HT_.out (by kernel_rfl)) (by decide) (fun K hK => ?_)
                       refine Kd.R_append_rows_step (Kd.int .i64) (w0 := w) w.heap.size (by rfl) (.tmp 87) (.tmp 90) 24 3 (.int .i64 0) 8 rfl Try.underlying24 info3 rfl (by decide) (by omega) v434 y433 y436 _ _ _ (fun k_ => some k_ ≠ (.slice (some ad394) x5_1.length co14 : Value).ownBlock ∧ some k_ ≠ (.slice Ao70 y430.length co70 : Value).ownBlock) (fun _ => False) rfl rfl ?aO ?aR (fun _ _ h => h) (fun _ h => h.elim) ?aF ?aB ?aS ?aL ?_
                       (case aR => repeat (first | exact (mC HR439.out) | (with_reducible refine Kd.C_alloc ?_ _) | (with_reducible refine Kd.C_drewN ?_ _) | (with_reducible refine Kd.C_drew ?_)))
                       (case aB => exact (mBs HB.out))
                       (case aF => exact (fun k_ hk => ⟨Kd.fresh' (Kd.R_lt (mR HO_5.out)) k_ hk, Kd.fresh' (Kd.R_lt (mR HO432.out)) k_ hk⟩))
                       (case aO => exact (mR HO435.out))
                       (case aS => exact (below_size (mBs HB.out)))
                       (case aL => have := LMc54.out; omega)
                       intro v441 w71 ho hb hg hat
                       rw [← Ny440.out] at ho
                       have n0_ := Aside0.mk (Kd.R_after (ok := (fun k_ => some k_ ≠ (.slice Ao70 y430.length co70 : Value).ownBlock)) (mR HO_5.out) hg hat)
                       have n1_ := Aside0.mk (blk_grown (g := gb393) (o := .cells (cJ (rd_T32 l0 x6_1)) 32 (0, 0)) (mBK BK393.out) hg (Kd.R_ne HO435.out BK393.out (by decide)))
                       have n2_ := Aside0.mk (blk_grown (g := gb396) (o := .cells (cJ (rd_T32 l0 (rd x5_1 (ji16)))) 32 (0, 0)) (mBK BK396.out) hg (Kd.R_ne HO435.out BK396.out (by decide)))
                       have n3_ := Aside0.mk (Kd.R_after (ok := (fun k_ => some k_ ≠ (.slice (some ad394) x5_1.length co14 : Value).ownBlock)) (mR HO432.out) hg hat)
                       have n4_ := Aside0.mk (hb)
                       have n5_ := Aside0.mk ((show Kd.C (Kd.int .i64) w71 (some ad394) y423.length y423 from by rw [Ny423.out]; exact Kd.C_take (m := (x8_3 : Int).toNat) ((Kd.R_reads' (Kd.R_after (ok := (fun k_ => some k_ ≠ (.slice Ao70 y430.length co70 : Value).ownBlock)) (mR HO_5.out) hg hat)).2.2) KL61.out))
                       have n6_ := Aside0.mk ((show Kd.C (Kd.int .i64) w71 A62 y436.length y436 from by rw [Ny436.out, KA62.out]; exact Kd.C_drop (m := (x8_3 : Int).toNat) (c := co14) ((Kd.R_reads' (Kd.R_after (ok := (fun k_ => some k_ ≠ (.slice Ao70 y430.length co70 : Value).ownBlock)) (mR HO_5.out) hg hat)).2.2) KL62.out ((Kd.R_reads' (Kd.R_after (ok := (fun k_ => some k_ ≠ (.slice Ao70 y430.length co70 : Value).ownBlock)) (mR HO_5.out) hg hat)).2.1)))
                       have n7_ := Aside0.mk (ho)
                       clear HO_5; clear BK393; clear BK396; clear HO432; clear HB; clear HR426; clear HR439; clear HO435
                       have HO_5 := n0_
                       have BK393 := n1_
                       have BK396 := n2_
                       have HO432 := n3_
                       have HB := n4_
                       have HR426 := n5_
                       have HR439 := n6_
                       have HO442 := n7_
                       clear n0_; clear n1_; clear n2_; clear n3_; clear n4_; clear n5_; clear n6_; clear n7_; clear ho; clear hb; clear hg; clear hat
                       refine hK.out _ _ trivial (fun hHeld => ?_)
                       clear hK; clear K
                       refine norm_ (a' := ?_) ?_ ?_
                       rotate_left
                       ·show Act.put _ (some 91) _ = _
                        simp only [Act.put, List.setIfInBounds_toArray, List.set_cons_zero, List.set_cons_succ, i64_w, i32_w]
                        rfl
                       refine plan_ [(12, 5)] ?_
                       refine planP_ (v := ?_) (a' := ?_) rfl rfl (any_of HT_.out (by kernel_rfl)) (fun _ _ _ h => h) (Or.inl ⟨by rfl, ?_⟩) ?_ ?_; rotate_left; (intro w'; go_simp; with_reducible rfl); rotate_left; (simp only [Act.put, List.setIfInBounds_toArray, List.set_cons_zero, List.set_cons_succ, i64_w, i32_w]; rfl)
                       refine planEnd_ ?_
                       refine done_ (done_of HT_.out (by kernel_rfl)) ?_
                       try go_wp2
                       go_roundg k3
                       case measure => have := HK1.out; have := HJ6.out; have := HK3.out; omega
                       case rel => exact ⟨(y440), (wrap64 (x6_1 + 1)), ez, H', ⟨by have := HK1.out; have := HJ6.out; have := HK3.out; omega⟩, ⟨by (with_reducible repeat (first | apply Kd.R_alloc | apply Kd.R_drewN | apply Kd.R_drew)); exact Kd.R_mono HO442.out (fun _ hk => trivial)⟩, ⟨mBs HB.out⟩⟩
                      ·rw [if_neg c54] at H
                       exact absurd H (by simp)
                     ·rw [if_neg c51] at H
                      exact absurd H (by simp)
                    ·rw [if_neg c50] at H
                     exact absurd H (by simp)
                   ·rw [if_neg c49] at H
                    exact absurd H (by simp)
                  ·rw [if_neg c48] at H
                   exact absurd H (by simp)
                 ·rw [if_neg c47] at H
                  have c47b0 : decide (((rd_T32 l0 (rd x5_1 (ji16))).f0) ≤ ((rd_T32 l0 x6_1).f0)) = false := decide_eq_false c47
                  clear c47
                  have H' := Aside0.mk H
                  clear H
                  have p394 : 0 ≤ ((ji16) : Int) := oda
                  have q394 : (ji16) < (x5_1.length : Int) := oda
                  obtain ⟨ad394, e394, hx394_0⟩ := Kd.at_int (Kd.R_reads' HO_5.out).2.2 (ji16) p394 q394
                  cases e394
                  replace p394 := eq_true p394
                  replace q394 := eq_true q394
                  have p395 : 0 ≤ ((rd x5_1 (ji16)) : Int) := oda
                  have q395 : (rd x5_1 (ji16)) < (l0.length : Int) := oda
                  obtain ⟨ad395, e395, hx395_0, hx395_1, hx395_2, hx395_3, hx395_4, hx395_5, hx395_6, hx395_7, hx395_8, hx395_9, hx395_10, hx395_11⟩ := at_T32 HR0.out (rd x5_1 (ji16)) p395 q395
                  obtain rfl : ad392 = ad395 := (by injection e395)
                  replace hx395_0 := hs_ HB.out hx395_0
                  replace hx395_1 := hs_ HB.out hx395_1
                  replace hx395_2 := hs_ HB.out hx395_2
                  replace hx395_3 := hs_ HB.out hx395_3
                  replace hx395_4 := hs_ HB.out hx395_4
                  replace hx395_5 := hs_ HB.out hx395_5
                  replace hx395_6 := hs_ HB.out hx395_6
                  replace hx395_7 := hs_ HB.out hx395_7
                  replace hx395_8 := hs_ HB.out hx395_8
                  replace hx395_9 := hs_ HB.out hx395_9
                  replace hx395_10 := hs_ HB.out hx395_10
                  replace hx395_11 := hs_ HB.out hx395_11
                  replace p395 := eq_true p395
                  replace q395 := eq_true q395
                  go_wp2_with (first | ((with_reducible refine gate_dst (N := 9) rfl ?_); refine box_event ?hg (N := 9) ?hd (cs := #[.int .i64 0, .int .i64 0, .int .i64 0, .int .i64 0, .int .i64 0, .int .i64 0, .int .i64 0, .int .i64 0, .int .i64 0, .int .i64 0, .int .i64 0, .slice none 0 0]) (t := 32) ?hr ?_; (case hd => rfl); (case hg => rfl); (case hr => first | (go_simp; done) | (go_simp; rfl)); intro gb396 hg w72 hbox hb; have n0_ := Aside0.mk (Kd.R_below (mR HO_5.out) hb); have n1_ := Aside0.mk (blk_below (g := gb393) (o := .cells (cJ (rd_T32 l0 x6_1)) 32 (0, 0)) (mBK BK393.out) hb); have n2_ := Aside0.mk (below_step (mBs HB.out) hb); have n3_ := Aside0.mk (hbox); have n4_ := Aside0.mk ((by rw [hg]; exact (below_size (mBs HB.out)) : w.heap.size ≤ gb396)); have n5_ := Aside0.mk ((by rw [hg]; exact (below_size (mBs HB.out)) : w.heap.size ≤ gb396)); have n6_ := Aside0.mk ((by rw [hg]; exact Nat.ne_of_lt (blk_lt (g := gb393) (o := .cells (cJ (rd_T32 l0 x6_1)) 32 (0, 0)) (mBK BK393.out)) : gb393 ≠ gb396)); have n7_ := Aside0.mk ((by rw [hg]; exact Nat.ne_of_gt (blk_lt (g := gb393) (o := .cells (cJ (rd_T32 l0 x6_1)) 32 (0, 0)) (mBK BK393.out)) : gb396 ≠ gb393)); clear HO_5; clear BK393; clear HB; have HO_5 := n0_; have BK393 := n1_; have HB := n2_; have BK396 := n3_; have GW396 := n4_; have GE396 := n5_; have NB393_396 := n6_; have NB396_393 := n7_; clear n0_ n1_ n2_ n3_ n4_ n5_ n6_ n7_; clear hb hbox hg; have hnb73 := NB396_393.out; have hnc73 := NB393_396.out; have hcz74_0 : w72.cell? ⟨gb396, 0, none⟩ = some (.int .i64 0) := (blk_cell BK396.out 0).trans rfl; have hcz74_1 : w72.cell? ⟨gb396, 1, none⟩ = some (.int .i64 0) := (blk_cell BK396.out 1).trans rfl; have hcz74_2 : w72.cell? ⟨gb396, 2, none⟩ = some (.int .i64 0) := (blk_cell BK396.out 2).trans rfl; have hcz74_3 : w72.cell? ⟨gb396, 3, none⟩ = some (.int .i64 0) := (blk_cell BK396.out 3).trans rfl; have hcz74_4 : w72.cell? ⟨gb396, 4, none⟩ = some (.int .i64 0) := (blk_cell BK396.out 4).trans rfl; have hcz74_5 : w72.cell? ⟨gb396, 5, none⟩ = some (.int .i64 0) := (blk_cell BK396.out 5).trans rfl; have hcz74_6 : w72.cell? ⟨gb396, 6, none⟩ = some (.int .i64 0) := (blk_cell BK396.out 6).trans rfl; have hcz74_7 : w72.cell? ⟨gb396, 7, none⟩ = some (.int .i64 0) := (blk_cell BK396.out 7).trans rfl; have hcz74_8 : w72.cell? ⟨gb396, 8, none⟩ = some (.int .i64 0) := (blk_cell BK396.out 8).trans rfl; have hcz74_9 : w72.cell? ⟨gb396, 9, none⟩ = some (.int .i64 0) := (blk_cell BK396.out 9).trans rfl; have hcz74_10 : w72.cell? ⟨gb396, 10, none⟩ = some (.int .i64 0) := (blk_cell BK396.out 10).trans rfl; have hcz74_11 : w72.cell? ⟨gb396, 11, none⟩ = some (.slice none 0 0) := (blk_cell BK396.out 11).trans rfl; have hfz74_0 := blk_frozen BK396.out 0; have hfz74_1 := blk_frozen BK396.out 1; have hfz74_2 := blk_frozen BK396.out 2; have hfz74_3 := blk_frozen BK396.out 3; have hfz74_4 := blk_frozen BK396.out 4; have hfz74_5 := blk_frozen BK396.out 5; have hfz74_6 := blk_frozen BK396.out 6; have hfz74_7 := blk_frozen BK396.out 7; have hfz74_8 := blk_frozen BK396.out 8; have hfz74_9 := blk_frozen BK396.out 9; have hfz74_10 := blk_frozen BK396.out 10; have hfz74_11 := blk_frozen BK396.out 11; have hcz75_0 : w72.cell? ⟨gb393, 0, none⟩ = some (.int .i64 ((rd_T32 l0 x6_1).f0)) := (blk_cell BK393.out 0).trans rfl; have hcz75_1 : w72.cell? ⟨gb393, 1, none⟩ = some (.int .i64 ((rd_T32 l0 x6_1).f1)) := (blk_cell BK393.out 1).trans rfl; have hcz75_2 : w72.cell? ⟨gb393, 2, none⟩ = some (.int .i64 ((rd_T32 l0 x6_1).f2)) := (blk_cell BK393.out 2).trans rfl; have hcz75_3 : w72.cell? ⟨gb393, 3, none⟩ = some (.int .i64 ((rd_T32 l0 x6_1).f3)) := (blk_cell BK393.out 3).trans rfl; have hcz75_4 : w72.cell? ⟨gb393, 4, none⟩ = some (.int .i64 ((rd_T32 l0 x6_1).f4)) := (blk_cell BK393.out 4).trans rfl; have hcz75_5 : w72.cell? ⟨gb393, 5, none⟩ = some (.int .i64 ((rd_T32 l0 x6_1).f5)) := (blk_cell BK393.out 5).trans rfl; have hcz75_6 : w72.cell? ⟨gb393, 6, none⟩ = some (.int .i64 ((rd_T32 l0 x6_1).f6)) := (blk_cell BK393.out 6).trans rfl; have hcz75_7 : w72.cell? ⟨gb393, 7, none⟩ = some (.int .i64 ((rd_T32 l0 x6_1).f7)) := (blk_cell BK393.out 7).trans rfl; have hcz75_8 : w72.cell? ⟨gb393, 8, none⟩ = some (.int .i64 ((rd_T32 l0 x6_1).f8)) := (blk_cell BK393.out 8).trans rfl; have hcz75_9 : w72.cell? ⟨gb393, 9, none⟩ = some (.int .i64 ((rd_T32 l0 x6_1).f9)) := (blk_cell BK393.out 9).trans rfl; have hcz75_10 : w72.cell? ⟨gb393, 10, none⟩ = some (.int .i64 ((rd_T32 l0 x6_1).f10)) := (blk_cell BK393.out 10).trans rfl; have hcz75_11 : w72.cell? ⟨gb393, 11, none⟩ = some (.slice ((rd_T32 l0 x6_1).f11).A ((rd_T32 l0 x6_1).f11).n ((rd_T32 l0 x6_1).f11).c) := (blk_cell BK393.out 11).trans rfl; have hfz75_0 := blk_frozen BK393.out 0; have hfz75_1 := blk_frozen BK393.out 1; have hfz75_2 := blk_frozen BK393.out 2; have hfz75_3 := blk_frozen BK393.out 3; have hfz75_4 := blk_frozen BK393.out 4; have hfz75_5 := blk_frozen BK393.out 5; have hfz75_6 := blk_frozen BK393.out 6; have hfz75_7 := blk_frozen BK393.out 7; have hfz75_8 := blk_frozen BK393.out 8; have hfz75_9 := blk_frozen BK393.out 9; have hfz75_10 := blk_frozen BK393.out 10; have hfz75_11 := blk_frozen BK393.out 11))
                  go_roundg k3
                  case measure => have := HK1.out; have := HJ6.out; have := HK3.out; omega
                  case rel => exact ⟨(ji16), (by first | rfl | (simp; done) | (simp only [← hji16] <;> (first | rfl | simp)) | (simp [*]; done)), H', ⟨by have := HK1.out; have := HJ6.out; have := HK3.out; omega⟩, ⟨by (with_reducible repeat (first | apply Kd.R_alloc | apply Kd.R_drewN | apply Kd.R_drew)); exact Kd.R_mono (Kd.R_fa gb396 11 (Kd.R_fa gb396 10 (Kd.R_fa gb396 9 (Kd.R_fa gb396 8 (Kd.R_fa gb396 7 (Kd.R_fa gb396 6 (Kd.R_fa gb396 5 (Kd.R_fa gb396 4 (Kd.R_fa gb396 3 (Kd.R_fa gb396 2 (Kd.R_fa gb396 1 (Kd.R_fa gb396 0 (Kd.R_types HO_5.out BK396.out (by decide)) (.int .i64 ((rd_T32 l0 (rd x5_1 (ji16))).f0))) (.int .i64 ((rd_T32 l0 (rd x5_1 (ji16))).f1))) (.int .i64 ((rd_T32 l0 (rd x5_1 (ji16))).f2))) (.int .i64 ((rd_T32 l0 (rd x5_1 (ji16))).f3))) (.int .i64 ((rd_T32 l0 (rd x5_1 (ji16))).f4))) (.int .i64 ((rd_T32 l0 (rd x5_1 (ji16))).f5))) (.int .i64 ((rd_T32 l0 (rd x5_1 (ji16))).f6))) (.int .i64 ((rd_T32 l0 (rd x5_1 (ji16))).f7))) (.int .i64 ((rd_T32 l0 (rd x5_1 (ji16))).f8))) (.int .i64 ((rd_T32 l0 (rd x5_1 (ji16))).f9))) (.int .i64 ((rd_T32 l0 (rd x5_1 (ji16))).f10))) (.slice ((rd_T32 l0 (rd x5_1 (ji16))).f11).A ((rd_T32 l0 (rd x5_1 (ji16))).f11).n ((rd_T32 l0 (rd x5_1 (ji16))).f11).c)) (fun _ hk => trivial)⟩, ⟨by (with_reducible repeat first | apply blk_drewN | apply blk_drew | apply blk_alloc); refine blk_far ?_ NB393_396.out _; (with_reducible repeat first | apply blk_drewN | apply blk_drew | apply blk_alloc); refine blk_far ?_ NB393_396.out _; (with_reducible repeat first | apply blk_drewN | apply blk_drew | apply blk_alloc); refine blk_far ?_ NB393_396.out _; (with_reducible repeat first | apply blk_drewN | apply blk_drew | apply blk_alloc); refine blk_far ?_ NB393_396.out _; (with_reducible repeat first | apply blk_drewN | apply blk_drew | apply blk_alloc); refine blk_far ?_ NB393_396.out _; (with_reducible repeat first | apply blk_drewN | apply blk_drew | apply blk_alloc); refine blk_far ?_ NB393_396.out _; (with_reducible repeat first | apply blk_drewN | apply blk_drew | apply blk_alloc); refine blk_far ?_ NB393_396.out _; (with_reducible repeat first | apply blk_drewN | apply blk_drew | apply blk_alloc); refine blk_far ?_ NB393_396.out _; (with_reducible repeat first | apply blk_drewN | apply blk_drew | apply blk_alloc); refine blk_far ?_ NB393_396.out _; (with_reducible repeat first | apply blk_drewN | apply blk_drew | apply blk_alloc); refine blk_far ?_ NB393_396.out _; (with_reducible repeat first | apply blk_drewN | apply blk_drew | apply blk_alloc); refine blk_far ?_ NB393_396.out _; (with_reducible repeat first | apply blk_drewN | apply blk_drew | apply blk_alloc); refine blk_far ?_ NB393_396.out _; (with_reducible repeat first | apply blk_drewN | apply blk_drew | apply blk_alloc); exact BK393.out⟩, ⟨mBs HB.out⟩⟩
                ·rw [if_neg c46] at H
                 have c46b0 : ((wrap64 (((rd_T32 l0 (rd x5_1 (ji16))).f8) + ((rd_T32 l0 (rd x5_1 (ji16))).f3))) == (wrap64 (((rd_T32 l0 x6_1).f8) + ((rd_T32 l0 x6_1).f3)))) = false := beq_eq_false_iff_ne.mpr c46
                 have c46b1 : ((wrap64 (((rd_T32 l0 (rd x5_1 (ji16))).f8) + ((rd_T32 l0 (rd x5_1 (ji16))).f3))) != (wrap64 (((rd_T32 l0 x6_1).f8) + ((rd_T32 l0 x6_1).f3)))) = true := bne_iff_ne.mpr c46
                 have H' := Aside0.mk H
                 clear H
                 have p394 : 0 ≤ ((ji16) : Int) := oda
                 have q394 : (ji16) < (x5_1.length : Int) := oda
                 obtain ⟨ad394, e394, hx394_0⟩ := Kd.at_int (Kd.R_reads' HO_5.out).2.2 (ji16) p394 q394
                 cases e394
                 replace p394 := eq_true p394
                 replace q394 := eq_true q394
                 have p395 : 0 ≤ ((rd x5_1 (ji16)) : Int) := oda
                 have q395 : (rd x5_1 (ji16)) < (l0.length : Int) := oda
                 obtain ⟨ad395, e395, hx395_0, hx395_1, hx395_2, hx395_3, hx395_4, hx395_5, hx395_6, hx395_7, hx395_8, hx395_9, hx395_10, hx395_11⟩ := at_T32 HR0.out (rd x5_1 (ji16)) p395 q395
                 obtain rfl : ad392 = ad395 := (by injection e395)
                 replace hx395_0 := hs_ HB.out hx395_0
                 replace hx395_1 := hs_ HB.out hx395_1
                 replace hx395_2 := hs_ HB.out hx395_2
                 replace hx395_3 := hs_ HB.out hx395_3
                 replace hx395_4 := hs_ HB.out hx395_4
                 replace hx395_5 := hs_ HB.out hx395_5
                 replace hx395_6 := hs_ HB.out hx395_6
                 replace hx395_7 := hs_ HB.out hx395_7
                 replace hx395_8 := hs_ HB.out hx395_8
                 replace hx395_9 := hs_ HB.out hx395_9
                 replace hx395_10 := hs_ HB.out hx395_10
                 replace hx395_11 := hs_ HB.out hx395_11
                 replace p395 := eq_true p395
                 replace q395 := eq_true q395
                 go_wp2_with (first | ((with_reducible refine gate_dst (N := 9) rfl ?_); refine box_event ?hg (N := 9) ?hd (cs := #[.int .i64 0, .int .i64 0, .int .i64 0, .int .i64 0, .int .i64 0, .int .i64 0, .int .i64 0, .int .i64 0, .int .i64 0, .int .i64 0, .int .i64 0, .slice none 0 0]) (t := 32) ?hr ?_; (case hd => rfl); (case hg => rfl); (case hr => first | (go_simp; done) | (go_simp; rfl)); intro gb396 hg w76 hbox hb; have n0_ := Aside0.mk (Kd.R_below (mR HO_5.out) hb); have n1_ := Aside0.mk (blk_below (g := gb393) (o := .cells (cJ (rd_T32 l0 x6_1)) 32 (0, 0)) (mBK BK393.out) hb); have n2_ := Aside0.mk (below_step (mBs HB.out) hb); have n3_ := Aside0.mk (hbox); have n4_ := Aside0.mk ((by rw [hg]; exact (below_size (mBs HB.out)) : w.heap.size ≤ gb396)); have n5_ := Aside0.mk ((by rw [hg]; exact (below_size (mBs HB.out)) : w.heap.size ≤ gb396)); have n6_ := Aside0.mk ((by rw [hg]; exact Nat.ne_of_lt (blk_lt (g := gb393) (o := .cells (cJ (rd_T32 l0 x6_1)) 32 (0, 0)) (mBK BK393.out)) : gb393 ≠ gb396)); have n7_ := Aside0.mk ((by rw [hg]; exact Nat.ne_of_gt (blk_lt (g := gb393) (o := .cells (cJ (rd_T32 l0 x6_1)) 32 (0, 0)) (mBK BK393.out)) : gb396 ≠ gb393)); clear HO_5; clear BK393; clear HB; have HO_5 := n0_; have BK393 := n1_; have HB := n2_; have BK396 := n3_; have GW396 := n4_; have GE396 := n5_; have NB393_396 := n6_; have NB396_393 := n7_; clear n0_ n1_ n2_ n3_ n4_ n5_ n6_ n7_; clear hb hbox hg; have hnb77 := NB396_393.out; have hnc77 := NB393_396.out; have hcz78_0 : w76.cell? ⟨gb396, 0, none⟩ = some (.int .i64 0) := (blk_cell BK396.out 0).trans rfl; have hcz78_1 : w76.cell? ⟨gb396, 1, none⟩ = some (.int .i64 0) := (blk_cell BK396.out 1).trans rfl; have hcz78_2 : w76.cell? ⟨gb396, 2, none⟩ = some (.int .i64 0) := (blk_cell BK396.out 2).trans rfl; have hcz78_3 : w76.cell? ⟨gb396, 3, none⟩ = some (.int .i64 0) := (blk_cell BK396.out 3).trans rfl; have hcz78_4 : w76.cell? ⟨gb396, 4, none⟩ = some (.int .i64 0) := (blk_cell BK396.out 4).trans rfl; have hcz78_5 : w76.cell? ⟨gb396, 5, none⟩ = some (.int .i64 0) := (blk_cell BK396.out 5).trans rfl; have hcz78_6 : w76.cell? ⟨gb396, 6, none⟩ = some (.int .i64 0) := (blk_cell BK396.out 6).trans rfl; have hcz78_7 : w76.cell? ⟨gb396, 7, none⟩ = some (.int .i64 0) := (blk_cell BK396.out 7).trans rfl; have hcz78_8 : w76.cell? ⟨gb396, 8, none⟩ = some (.int .i64 0) := (blk_cell BK396.out 8).trans rfl; have hcz78_9 : w76.cell? ⟨gb396, 9, none⟩ = some (.int .i64 0) := (blk_cell BK396.out 9).trans rfl; have hcz78_10 : w76.cell? ⟨gb396, 10, none⟩ = some (.int .i64 0) := (blk_cell BK396.out 10).trans rfl; have hcz78_11 : w76.cell? ⟨gb396, 11, none⟩ = some (.slice none 0 0) := (blk_cell BK396.out 11).trans rfl; have hfz78_0 := blk_frozen BK396.out 0; have hfz78_1 := blk_frozen BK396.out 1; have hfz78_2 := blk_frozen BK396.out 2; have hfz78_3 := blk_frozen BK396.out 3; have hfz78_4 := blk_frozen BK396.out 4; have hfz78_5 := blk_frozen BK396.out 5; have hfz78_6 := blk_frozen BK396.out 6; have hfz78_7 := blk_frozen BK396.out 7; have hfz78_8 := blk_frozen BK396.out 8; have hfz78_9 := blk_frozen BK396.out 9; have hfz78_10 := blk_frozen BK396.out 10; have hfz78_11 := blk_frozen BK396.out 11; have hcz79_0 : w76.cell? ⟨gb393, 0, none⟩ = some (.int .i64 ((rd_T32 l0 x6_1).f0)) := (blk_cell BK393.out 0).trans rfl; have hcz79_1 : w76.cell? ⟨gb393, 1, none⟩ = some (.int .i64 ((rd_T32 l0 x6_1).f1)) := (blk_cell BK393.out 1).trans rfl; have hcz79_2 : w76.cell? ⟨gb393, 2, none⟩ = some (.int .i64 ((rd_T32 l0 x6_1).f2)) := (blk_cell BK393.out 2).trans rfl; have hcz79_3 : w76.cell? ⟨gb393, 3, none⟩ = some (.int .i64 ((rd_T32 l0 x6_1).f3)) := (blk_cell BK393.out 3).trans rfl; have hcz79_4 : w76.cell? ⟨gb393, 4, none⟩ = some (.int .i64 ((rd_T32 l0 x6_1).f4)) := (blk_cell BK393.out 4).trans rfl; have hcz79_5 : w76.cell? ⟨gb393, 5, none⟩ = some (.int .i64 ((rd_T32 l0 x6_1).f5)) := (blk_cell BK393.out 5).trans rfl; have hcz79_6 : w76.cell? ⟨gb393, 6, none⟩ = some (.int .i64 ((rd_T32 l0 x6_1).f6)) := (blk_cell BK393.out 6).trans rfl; have hcz79_7 : w76.cell? ⟨gb393, 7, none⟩ = some (.int .i64 ((rd_T32 l0 x6_1).f7)) := (blk_cell BK393.out 7).trans rfl; have hcz79_8 : w76.cell? ⟨gb393, 8, none⟩ = some (.int .i64 ((rd_T32 l0 x6_1).f8)) := (blk_cell BK393.out 8).trans rfl; have hcz79_9 : w76.cell? ⟨gb393, 9, none⟩ = some (.int .i64 ((rd_T32 l0 x6_1).f9)) := (blk_cell BK393.out 9).trans rfl; have hcz79_10 : w76.cell? ⟨gb393, 10, none⟩ = some (.int .i64 ((rd_T32 l0 x6_1).f10)) := (blk_cell BK393.out 10).trans rfl; have hcz79_11 : w76.cell? ⟨gb393, 11, none⟩ = some (.slice ((rd_T32 l0 x6_1).f11).A ((rd_T32 l0 x6_1).f11).n ((rd_T32 l0 x6_1).f11).c) := (blk_cell BK393.out 11).trans rfl; have hfz79_0 := blk_frozen BK393.out 0; have hfz79_1 := blk_frozen BK393.out 1; have hfz79_2 := blk_frozen BK393.out 2; have hfz79_3 := blk_frozen BK393.out 3; have hfz79_4 := blk_frozen BK393.out 4; have hfz79_5 := blk_frozen BK393.out 5; have hfz79_6 := blk_frozen BK393.out 6; have hfz79_7 := blk_frozen BK393.out 7; have hfz79_8 := blk_frozen BK393.out 8; have hfz79_9 := blk_frozen BK393.out 9; have hfz79_10 := blk_frozen BK393.out 10; have hfz79_11 := blk_frozen BK393.out 11))
                 go_roundg k3
                 case measure => have := HK1.out; have := HJ6.out; have := HK3.out; omega
                 case rel => exact ⟨(ji16), (by first | rfl | (simp; done) | (simp only [← hji16] <;> (first | rfl | simp)) | (simp [*]; done)), H', ⟨by have := HK1.out; have := HJ6.out; have := HK3.out; omega⟩, ⟨by (with_reducible repeat (first | apply Kd.R_alloc | apply Kd.R_drewN | apply Kd.R_drew)); exact Kd.R_mono (Kd.R_fa gb396 11 (Kd.R_fa gb396 10 (Kd.R_fa gb396 9 (Kd.R_fa gb396 8 (Kd.R_fa gb396 7 (Kd.R_fa gb396 6 (Kd.R_fa gb396 5 (Kd.R_fa gb396 4 (Kd.R_fa gb396 3 (Kd.R_fa gb396 2 (Kd.R_fa gb396 1 (Kd.R_fa gb396 0 (Kd.R_types HO_5.out BK396.out (by decide)) (.int .i64 ((rd_T32 l0 (rd x5_1 (ji16))).f0))) (.int .i64 ((rd_T32 l0 (rd x5_1 (ji16))).f1))) (.int .i64 ((rd_T32 l0 (rd x5_1 (ji16))).f2))) (.int .i64 ((rd_T32 l0 (rd x5_1 (ji16))).f3))) (.int .i64 ((rd_T32 l0 (rd x5_1 (ji16))).f4))) (.int .i64 ((rd_T32 l0 (rd x5_1 (ji16))).f5))) (.int .i64 ((rd_T32 l0 (rd x5_1 (ji16))).f6))) (.int .i64 ((rd_T32 l0 (rd x5_1 (ji16))).f7))) (.int .i64 ((rd_T32 l0 (rd x5_1 (ji16))).f8))) (.int .i64 ((rd_T32 l0 (rd x5_1 (ji16))).f9))) (.int .i64 ((rd_T32 l0 (rd x5_1 (ji16))).f10))) (.slice ((rd_T32 l0 (rd x5_1 (ji16))).f11).A ((rd_T32 l0 (rd x5_1 (ji16))).f11).n ((rd_T32 l0 (rd x5_1 (ji16))).f11).c)) (fun _ hk => trivial)⟩, ⟨by (with_reducible repeat first | apply blk_drewN | apply blk_drew | apply blk_alloc); refine blk_far ?_ NB393_396.out _; (with_reducible repeat first | apply blk_drewN | apply blk_drew | apply blk_alloc); refine blk_far ?_ NB393_396.out _; (with_reducible repeat first | apply blk_drewN | apply blk_drew | apply blk_alloc); refine blk_far ?_ NB393_396.out _; (with_reducible repeat first | apply blk_drewN | apply blk_drew | apply blk_alloc); refine blk_far ?_ NB393_396.out _; (with_reducible repeat first | apply blk_drewN | apply blk_drew | apply blk_alloc); refine blk_far ?_ NB393_396.out _; (with_reducible repeat first | apply blk_drewN | apply blk_drew | apply blk_alloc); refine blk_far ?_ NB393_396.out _; (with_reducible repeat first | apply blk_drewN | apply blk_drew | apply blk_alloc); refine blk_far ?_ NB393_396.out _; (with_reducible repeat first | apply blk_drewN | apply blk_drew | apply blk_alloc); refine blk_far ?_ NB393_396.out _; (with_reducible repeat first | apply blk_drewN | apply blk_drew | apply blk_alloc); refine blk_far ?_ NB393_396.out _; (with_reducible repeat first | apply blk_drewN | apply blk_drew | apply blk_alloc); refine blk_far ?_ NB393_396.out _; (with_reducible repeat first | apply blk_drewN | apply blk_drew | apply blk_alloc); refine blk_far ?_ NB393_396.out _; (with_reducible repeat first | apply blk_drewN | apply blk_drew | apply blk_alloc); refine blk_far ?_ NB393_396.out _; (with_reducible repeat first | apply blk_drewN | apply blk_drew | apply blk_alloc); exact BK393.out⟩, ⟨mBs HB.out⟩⟩
              ·rw [if_neg c20] at H
               exact absurd H (by simp)
             ·rw [if_neg c19] at H
              exact absurd H (by simp)
            ·rw [if_neg c18] at H
             exact absurd H (by simp)
           ·rw [if_neg c17] at H
            exact absurd H (by simp)
          ·rw [if_neg c15] at H
           have c15b0 : decide (0 < x8_3) = false := decide_eq_false c15
           clear c15
           obtain ⟨y443, hy443⟩ : ∃ y_ : List Int, y_ = (([] : List Int)) := ⟨_, rfl⟩
           replace H : (if 0 ≤ x8_3 then (if x8_3 ≤ (x5_1.length : Int) then ((some (x5_1.take (x8_3 : Int).toNat : List Int)).bind fun y446 => (if y443.length + y446.length < 17592186044416 then ((some (y443 ++ y446 : List Int)).bind fun y450 => ((some (([x6_1] : List Int) : List Int)).bind fun y453 => (if y450.length + y453.length < 17592186044416 then ((some (y450 ++ y453 : List Int)).bind fun y456 => ((some (x5_1.drop (x8_3 : Int).toNat : List Int)).bind fun y459 => (if y456.length + y459.length < 17592186044416 then (prebendref19_Due.l0 k3 l0 a1 (y456 ++ y459) (wrap64 (x6_1 + 1))) else (none)))) else (none)))) else (none))) else (none)) else (none)) = some r := mH hy443 H
           have Ny443 := Aside0.mk hy443
           clear hy443
           by_cases c80 : 0 ≤ x8_3
           ·rw [if_pos c80] at H
            have c80b0 := eq_true c80
            have c80b1 : decide (0 ≤ x8_3) = true := decide_eq_true c80
            clear c80
            by_cases c81 : x8_3 ≤ (x5_1.length : Int)
            ·rw [if_pos c81] at H
             have c81b0 := eq_true c81
             have c81b1 : decide (x8_3 ≤ (x5_1.length : Int)) = true := decide_eq_true c81
             clear c81
             obtain ⟨y446, hy446⟩ : ∃ y_ : List Int, y_ = (x5_1.take (x8_3 : Int).toNat) := ⟨_, rfl⟩
             replace H : (if y443.length + y446.length < 17592186044416 then ((some (y443 ++ y446 : List Int)).bind fun y450 => ((some (([x6_1] : List Int) : List Int)).bind fun y453 => (if y450.length + y453.length < 17592186044416 then ((some (y450 ++ y453 : List Int)).bind fun y456 => ((some (x5_1.drop (x8_3 : Int).toNat : List Int)).bind fun y459 => (if y456.length + y459.length < 17592186044416 then (prebendref19_Due.l0 k3 l0 a1 (y456 ++ y459) (wrap64 (x6_1 + 1))) else (none)))) else (none)))) else (none)) = some r := mH hy446 H
             have Ny446 := Aside0.mk hy446
             clear hy446
             by_cases c82 : y443.length + y446.length < 17592186044416
             ·rw [if_pos c82] at H
              have LMc82 := Aside0.mk c82
              clear c82
              obtain ⟨y450, hy450⟩ : ∃ y_ : List Int, y_ = (y443 ++ y446) := ⟨_, rfl⟩
              replace H : ((some (([x6_1] : List Int) : List Int)).bind fun y453 => (if y450.length + y453.length < 17592186044416 then ((some (y450 ++ y453 : List Int)).bind fun y456 => ((some (x5_1.drop (x8_3 : Int).toNat : List Int)).bind fun y459 => (if y456.length + y459.length < 17592186044416 then (prebendref19_Due.l0 k3 l0 a1 (y456 ++ y459) (wrap64 (x6_1 + 1))) else (none)))) else (none))) = some r := mH hy450 H
              have Ny450 := Aside0.mk hy450
              clear hy450
              obtain ⟨y453, hy453⟩ : ∃ y_ : List Int, y_ = (([x6_1] : List Int)) := ⟨_, rfl⟩
              replace H : (if y450.length + y453.length < 17592186044416 then ((some (y450 ++ y453 : List Int)).bind fun y456 => ((some (x5_1.drop (x8_3 : Int).toNat : List Int)).bind fun y459 => (if y456.length + y459.length < 17592186044416 then (prebendref19_Due.l0 k3 l0 a1 (y456 ++ y459) (wrap64 (x6_1 + 1))) else (none)))) else (none)) = some r := mH hy453 H
              have Ny453 := Aside0.mk hy453
              clear hy453
              by_cases c83 : y450.length + y453.length < 17592186044416
              ·rw [if_pos c83] at H
               have LMc83 := Aside0.mk c83
               clear c83
               obtain ⟨y456, hy456⟩ : ∃ y_ : List Int, y_ = (y450 ++ y453) := ⟨_, rfl⟩
               replace H : ((some (x5_1.drop (x8_3 : Int).toNat : List Int)).bind fun y459 => (if y456.length + y459.length < 17592186044416 then (prebendref19_Due.l0 k3 l0 a1 (y456 ++ y459) (wrap64 (x6_1 + 1))) else (none))) = some r := mH hy456 H
               have Ny456 := Aside0.mk hy456
               clear hy456
               have c84b0 := eq_true (oda : 0 ≤ x8_3)
               have c85b0 := eq_true (oda : x8_3 ≤ (x5_1.length : Int))
               obtain ⟨y459, hy459⟩ : ∃ y_ : List Int, y_ = (x5_1.drop (x8_3 : Int).toNat) := ⟨_, rfl⟩
               replace H : (if y456.length + y459.length < 17592186044416 then (prebendref19_Due.l0 k3 l0 a1 (y456 ++ y459) (wrap64 (x6_1 + 1))) else (none)) = some r := mH hy459 H
               have Ny459 := Aside0.mk hy459
               clear hy459
               by_cases c86 : y456.length + y459.length < 17592186044416
               ·rw [if_pos c86] at H
                have LMc86 := Aside0.mk c86
                clear c86
                obtain ⟨y463, hy463⟩ : ∃ y_ : List Int, y_ = (y456 ++ y459) := ⟨_, rfl⟩
                replace H : (prebendref19_Due.l0 k3 l0 a1 y463 (wrap64 (x6_1 + 1))) = some r := mH hy463 H
                have Ny463 := Aside0.mk hy463
                clear hy463
                have H' := Aside0.mk H
                clear H
                try go_wp2
                have n0_ := Aside0.mk (Kd.R_drew HO_5.out)
                have n1_ := Aside0.mk (blk_drew BK393.out)
                have n2_ := Aside0.mk (below_drew1 HB.out)
                clear HO_5; clear BK393; clear HB
                have HO_5 := n0_
                have BK393 := n1_
                have HB := n2_
                clear n0_; clear n1_; clear n2_
                have q88 : (x8_3 : Int) ≤ ((x5_1.length : Int) : Int) := oda
                obtain ⟨i088, hi088, _, hsz88, _⟩ := info_parts info3
                have hroom88 : x5_1.length ≤ co14 := (Kd.R_reads' HO_5.out).2.1
                have hC88 : Kd.C (Kd.int .i64) _ Ao14 x5_1.length x5_1 := (Kd.R_reads' HO_5.out).2.2
                have hcut88 := cut_to (P := Try.prog) 24 3 .i64 Try.underlying24 hi088 Ao14 x5_1.length co14 x8_3 (oda) q88 hroom88
                have hr88 := Kd.C_take (m := (x8_3 : Int).toNat) hC88 (by omega)
                have hy88 : y446.length = (x8_3 : Int).toNat := (by rw [Ny446.out, List.length_take]; omega)
                rw [← Ny446.out] at hr88
                rw [← hy88] at hcut88
                have HR449 := Aside0.mk hr88
                have HC449 := Aside0.mk (show y446.length ≤ co14 from by omega)
                clear hr88; clear hC88; clear hroom88; clear hi088; clear hsz88
                have KY88 := Aside0.mk hy88
                clear hy88
                have KL88 := Aside0.mk (show (x8_3 : Int).toNat ≤ x5_1.length from by omega)
                replace q88 := eq_true q88
                have q89 : (x8_3 : Int) ≤ ((x5_1.length : Int) : Int) := oda
                obtain ⟨i089, hi089, _, hsz89, _⟩ := info_parts info3
                have hroom89 : x5_1.length ≤ co14 := (Kd.R_reads' HO_5.out).2.1
                have hC89 : Kd.C (Kd.int .i64) _ Ao14 x5_1.length x5_1 := (Kd.R_reads' HO_5.out).2.2
                have q089 : (0 : Int) ≤ (x8_3 : Int) := oda
                have hcut89 := cut_from (P := Try.prog) 24 3 .i64 Try.underlying24 hi089 1 hsz89 Ao14 x5_1.length co14 x8_3 q089 q89
                have hr89 := Kd.C_drop (m := (x8_3 : Int).toNat) (c := co14) hC89 (by omega) hroom89
                obtain ⟨A89, hA89⟩ : ∃ A1, A1 = (if co14 = (x8_3 : Int).toNat then Ao14 else (Ao14 : Option Addr).map (·.add ((x8_3 : Int).toNat * 1))) := ⟨_, rfl⟩
                obtain ⟨c89, hc89⟩ : ∃ c1, c1 = co14 - (x8_3 : Int).toNat := ⟨_, rfl⟩
                have hy89 : y459.length = x5_1.length - (x8_3 : Int).toNat := (by rw [Ny459.out, List.length_drop] <;> omega)
                rw [show (x5_1).drop (x8_3 : Int).toNat = y459 from Ny459.out.symm] at hr89
                replace hr89 : Kd.C (Kd.int .i64) _ A89 y459.length y459 := (by rw [hA89]; exact hr89)
                rw [← hy89, ← hA89, ← hc89] at hcut89
                have HR462 := Aside0.mk hr89
                have HC462 := Aside0.mk (show y459.length ≤ c89 from by rw [hy89, hc89]; exact Nat.sub_le_sub_right hroom89 _)
                clear hr89; clear hC89; clear hroom89; clear hi089; clear hsz89; clear hc89
                have KY89 := Aside0.mk hy89
                have KA89 := Aside0.mk hA89
                clear hy89; clear hA89
                have KL89 := Aside0.mk (show (x8_3 : Int).toNat ≤ x5_1.length from by omega)
                replace q89 := eq_true q89
                refine start_ (n := 13) (S := fun w' => True) (ds := []) #[false, false, false, false, false, false, false, false, false, false, false, false, false] (by kernel_rfl) rfl rfl trivial (fun hHeld => ?_); refine with_tabW prebendref19_Due.tab12 prebendref19_Due.bits12 (fun HT_ HW_ => ?_)
                generalize wr.drew = w87 at HO_5 BK393 HB HR449 HR462 hHeld ⊢
                refine plan_ [(1, 81), (2, 82), (3, 83), (5, 85), (8, 88), (9, 89), (10, 90)] ?_
                iterate 7 (refine planP_ (v := ?_) (a' := ?_) rfl rfl (any_of HT_.out (by kernel_rfl)) (fun _ _ _ h => h) (Or.inl ⟨by rfl, ?_⟩) ?_ ?_; rotate_left; (intro w'; go_simp; with_reducible rfl); rotate_left; (simp only [Act.put, List.setIfInBounds_toArray, List.set_cons_zero, List.set_cons_succ, i64_w, i32_w]; rfl))
                refine planEnd_ ?_
                refine join_ (σ := Value × Value × Value) 3 #[true, true, true, true, true, true, true, false, true, true, true, false, false] (fun s_ => [(80, s_.1), (84, s_.2.1), (86, s_.2.2)]) (fun s_ w' => (Kd.R (Kd.int .i64) 3 w' w.heap.size (fun k_ => some k_ ≠ (s_.2.2 : Value).ownBlock ∧ some k_ ≠ (.slice Ao14 x5_1.length co14 : Value).ownBlock) s_.2.1 y450) ∧ (Kd.R (Kd.int .i64) 3 w' w.heap.size (fun k_ => some k_ ≠ (s_.2.1 : Value).ownBlock ∧ some k_ ≠ (.slice Ao14 x5_1.length co14 : Value).ownBlock) s_.2.2 y453) ∧ (Kd.R (Kd.int .i64) 3 w' w.heap.size (fun k_ => some k_ ≠ (s_.2.1 : Value).ownBlock ∧ some k_ ≠ (s_.2.2 : Value).ownBlock) (.slice Ao14 x5_1.length co14) x5_1) ∧ (Kd.C (Kd.int .i64) w' Ao14 y446.length y446) ∧ (Kd.C (Kd.int .i64) w' A89 y459.length y459) ∧ (w'.heap[gb393]? = some (.cells (cJ (rd_T32 l0 x6_1)) 32 (0, 0))) ∧ (Below w.heap.size w w')) ?_ ?_
                rotate_left
                ·intro hCont
                 refine two_ (i := 0) (j := 6) (Ni := some 80) (Nj := some 86) #[true, true, true, true, false, true, false, false, true, true, true, false, false] #[false, true, true, true, false, true, true, false, true, true, true, false, false] rfl rfl rfl rfl (two_of HT_.out (by kernel_rfl)) (by decide) (by decide) (fun K hK => ?_) (fun K hK => ?_)
                 ·skip
                  refine Kd.R_lit_step (Kd.int .i64) _ 3 ?hg (N := 80) ?hd (xs := ([] : List Int)) (inner := []) (ok := fun _ => True) (okp := fun _ => True) ?hr ?hp (fun _ hk => hk) trivial (Below.refl _ _) (Nat.le_refl _) (by simp) ?_; (case hd => rfl); (case hg => rfl); (case hr => first | (go_simp; done) | (go_simp; rfl)); (case hp => exact (Reps.none _ _))
                  intro v444 w90 ho91 hb hg_ hnew_
                  clear hg_; clear hnew_
                  (first | rw [← Ny443.out] at ho91 | (simp only [Int.reduceToNat] at ho91; rw [← Ny443.out] at ho91))
                  have n0_ := Aside0.mk (Kd.R_elder' (mR HO_5.out) (Kd.R_base ho91) hb)
                  have n1_ := Aside0.mk (Kd.R_lower (Kd.R_new' ho91 (Kd.R_lt (mR HO_5.out))) (below_size (mBs HB.out)))
                  have n2_ := Aside0.mk (blk_below (g := gb393) (o := .cells (cJ (rd_T32 l0 x6_1)) 32 (0, 0)) (mBK BK393.out) hb)
                  have n3_ := Aside0.mk (Kd.C_below (mC HR449.out) hb)
                  have n4_ := Aside0.mk (Kd.C_below (mC HR462.out) hb)
                  have n5_ := Aside0.mk (below_step (mBs HB.out) hb)
                  clear HO_5; clear BK393; clear HR449; clear HR462; clear HB
                  have HO_5 := n0_
                  have HO445 := n1_
                  have BK393 := n2_
                  have HR449 := n3_
                  have HR462 := n4_
                  have HB := n5_
                  clear n0_; clear n1_; clear n2_; clear n3_; clear n4_; clear n5_; clear hb; clear ho91
                  refine hK.out _ _ trivial (fun hHeld => ?_)
                  clear hK; clear K
                  refine norm_ (a' := ?_) ?_ ?_
                  rotate_left
                  ·show Act.put _ (some 80) _ = _
                   simp only [Act.put, List.setIfInBounds_toArray, List.set_cons_zero, List.set_cons_succ, i64_w, i32_w]
                   rfl
                  refine two_ (i := 4) (j := 6) (Ni := some 84) (Nj := some 86) #[true, true, true, true, true, true, false, false, true, true, true, false, false] #[true, true, true, true, false, true, true, false, true, true, true, false, false] rfl rfl rfl rfl (two_of HT_.out (by kernel_rfl)) (by decide) (by decide) (fun K hK => ?_) (fun K hK => ?_)
                  ·skip
                   refine Kd.R_append_rows_step (Kd.int .i64) (w0 := w) w.heap.size (by rfl) (.tmp 80) (.tmp 83) 24 3 (.int .i64 0) 8 rfl Try.underlying24 info3 rfl (by decide) (by omega) v444 y443 y446 _ _ _ (fun k_ => some k_ ≠ (.slice Ao14 x5_1.length co14 : Value).ownBlock) (fun _ => False) rfl rfl ?aO ?aR (fun _ _ h => h) (fun _ h => h.elim) ?aF ?aB ?aS ?aL ?_
                   (case aR => repeat (first | exact (mC HR449.out) | (with_reducible refine Kd.C_alloc ?_ _) | (with_reducible refine Kd.C_drewN ?_ _) | (with_reducible refine Kd.C_drew ?_)))
                   (case aB => exact (mBs HB.out))
                   (case aF => exact (fun k_ hk => Kd.fresh' (Kd.R_lt (mR HO_5.out)) k_ hk))
                   (case aO => exact (by (with_reducible repeat (first | apply Kd.R_alloc | apply Kd.R_drewN | apply Kd.R_drew)); exact Kd.R_mono HO445.out (fun _ hk => hk.2)))
                   (case aS => exact (below_size (mBs HB.out)))
                   (case aL => have := LMc82.out; omega)
                   intro v451 w92 ho hb hg hat
                   rw [← Ny450.out] at ho
                   have n0_ := Aside0.mk (Kd.R_after (ok := (fun _ => True)) (mR HO_5.out) hg hat)
                   have n1_ := Aside0.mk (blk_grown (g := gb393) (o := .cells (cJ (rd_T32 l0 x6_1)) 32 (0, 0)) (mBK BK393.out) hg (Kd.R_ne HO445.out BK393.out (by decide)))
                   have n2_ := Aside0.mk (hb)
                   have n3_ := Aside0.mk ((show Kd.C (Kd.int .i64) w92 Ao14 y446.length y446 from by rw [Ny446.out]; exact Kd.C_take (m := (x8_3 : Int).toNat) ((Kd.R_reads' (Kd.R_after (ok := (fun _ => True)) (mR HO_5.out) hg hat)).2.2) KL88.out))
                   have n4_ := Aside0.mk ((show Kd.C (Kd.int .i64) w92 A89 y459.length y459 from by rw [Ny459.out, KA89.out]; exact Kd.C_drop (m := (x8_3 : Int).toNat) (c := co14) ((Kd.R_reads' (Kd.R_after (ok := (fun _ => True)) (mR HO_5.out) hg hat)).2.2) KL89.out ((Kd.R_reads' (Kd.R_after (ok := (fun _ => True)) (mR HO_5.out) hg hat)).2.1)))
                   have n5_ := Aside0.mk (ho)
                   clear HO_5; clear BK393; clear HB; clear HR449; clear HR462; clear HO445
                   have HO_5 := n0_
                   have BK393 := n1_
                   have HB := n2_
                   have HR449 := n3_
                   have HR462 := n4_
                   have HO452 := n5_
                   clear n0_; clear n1_; clear n2_; clear n3_; clear n4_; clear n5_; clear ho; clear hb; clear hg; clear hat
                   refine hK.out _ _ trivial (fun hHeld => ?_)
                   clear hK; clear K
                   refine norm_ (a' := ?_) ?_ ?_
                   rotate_left
                   ·show Act.put _ (some 84) _ = _
                    simp only [Act.put, List.setIfInBounds_toArray, List.set_cons_zero, List.set_cons_succ, i64_w, i32_w]
                    rfl
                   refine one_ (i := 6) (N := some 86) #[true, true, true, true, true, true, true, false, true, true, true, false, false] rfl rfl (one_of HT_.out (by kernel_rfl)) (by decide) (fun K hK => ?_)
                   refine Kd.R_lit_step (Kd.int .i64) _ 3 ?hg (N := 86) ?hd (xs := ([x6_1] : List Int)) (inner := [.int .i64 x6_1]) (ok := fun _ => True) (okp := fun _ => True) ?hr ?hp (fun _ hk => hk) trivial (Below.refl _ _) (Nat.le_refl _) (by simp) ?_; (case hd => rfl); (case hg => rfl); (case hr => first | (go_simp; done) | (go_simp; rfl)); (case hp => exact (Reps.one (show Kd.M (Kd.int .i64) _ _ _ x6_1 [.int .i64 x6_1] from rfl) (Reps.none _ _)))
                   intro v454 w93 ho94 hb hg_ hnew_
                   clear hg_; clear hnew_
                   (first | rw [← Ny453.out] at ho94 | (simp only [Int.reduceToNat] at ho94; rw [← Ny453.out] at ho94))
                   have n0_ := Aside0.mk (Kd.R_elder' (mR HO_5.out) (Kd.R_base ho94) hb)
                   have n1_ := Aside0.mk (Kd.R_elder' (mR HO452.out) (Kd.R_base ho94) hb)
                   have n2_ := Aside0.mk (Kd.R_lower (Kd.R_new' (Kd.R_new' ho94 (Kd.R_lt (mR HO_5.out))) (Kd.R_lt (mR HO452.out))) (below_size (mBs HB.out)))
                   have n3_ := Aside0.mk (blk_below (g := gb393) (o := .cells (cJ (rd_T32 l0 x6_1)) 32 (0, 0)) (mBK BK393.out) hb)
                   have n4_ := Aside0.mk (Kd.C_below (mC HR449.out) hb)
                   have n5_ := Aside0.mk (Kd.C_below (mC HR462.out) hb)
                   have n6_ := Aside0.mk (below_step (mBs HB.out) hb)
                   clear HO_5; clear HO452; clear BK393; clear HR449; clear HR462; clear HB
                   have HO_5 := n0_
                   have HO452 := n1_
                   have HO455 := n2_
                   have BK393 := n3_
                   have HR449 := n4_
                   have HR462 := n5_
                   have HB := n6_
                   clear n0_; clear n1_; clear n2_; clear n3_; clear n4_; clear n5_; clear n6_; clear hb; clear ho94
                   refine hK.out _ _ trivial (fun hHeld => ?_)
                   clear hK; clear K
                   refine norm_ (a' := ?_) ?_ ?_
                   rotate_left
                   ·show Act.put _ (some 86) _ = _
                    simp only [Act.put, List.setIfInBounds_toArray, List.set_cons_zero, List.set_cons_succ, i64_w, i32_w]
                    rfl
                   exact norm_ (by simp only [putAll, Act.put, List.setIfInBounds_toArray, List.set_cons_zero, List.set_cons_succ]) (hCont (v444, v451, v454) _ ⟨(by (with_reducible repeat (first | apply Kd.R_alloc | apply Kd.R_drewN | apply Kd.R_drew)); exact Kd.R_mono HO452.out (fun _ hk => ⟨hk.2, hk.1⟩)), (by (with_reducible repeat (first | apply Kd.R_alloc | apply Kd.R_drewN | apply Kd.R_drew)); exact Kd.R_mono HO455.out (fun _ hk => ⟨hk.2, hk.1.2⟩)), (by (with_reducible repeat (first | apply Kd.R_alloc | apply Kd.R_drewN | apply Kd.R_drew)); exact Kd.R_mono HO_5.out (fun _ hk => ⟨hk.1.2, hk.2⟩)), (mC HR449.out), (mC HR462.out), (mBK BK393.out), (mBs HB.out)⟩)
                  ·skip
                   refine Kd.R_lit_step (Kd.int .i64) _ 3 ?hg (N := 86) ?hd (xs := ([x6_1] : List Int)) (inner := [.int .i64 x6_1]) (ok := fun _ => True) (okp := fun _ => True) ?hr ?hp (fun _ hk => hk) trivial (Below.refl _ _) (Nat.le_refl _) (by simp) ?_; (case hd => rfl); (case hg => rfl); (case hr => first | (go_simp; done) | (go_simp; rfl)); (case hp => exact (Reps.one (show Kd.M (Kd.int .i64) _ _ _ x6_1 [.int .i64 x6_1] from rfl) (Reps.none _ _)))
                   intro v454 w92 ho93 hb hg_ hnew_
                   clear hg_; clear hnew_
                   (first | rw [← Ny453.out] at ho93 | (simp only [Int.reduceToNat] at ho93; rw [← Ny453.out] at ho93))
                   have n0_ := Aside0.mk (Kd.R_elder' (mR HO_5.out) (Kd.R_base ho93) hb)
                   have n1_ := Aside0.mk (Kd.R_elder' (mR HO445.out) (Kd.R_base ho93) hb)
                   have n2_ := Aside0.mk (Kd.R_lower (Kd.R_new' (Kd.R_new' ho93 (Kd.R_lt (mR HO_5.out))) (Kd.R_lt (mR HO445.out))) (below_size (mBs HB.out)))
                   have n3_ := Aside0.mk (blk_below (g := gb393) (o := .cells (cJ (rd_T32 l0 x6_1)) 32 (0, 0)) (mBK BK393.out) hb)
                   have n4_ := Aside0.mk (Kd.C_below (mC HR449.out) hb)
                   have n5_ := Aside0.mk (Kd.C_below (mC HR462.out) hb)
                   have n6_ := Aside0.mk (below_step (mBs HB.out) hb)
                   clear HO_5; clear HO445; clear BK393; clear HR449; clear HR462; clear HB
                   have HO_5 := n0_
                   have HO445 := n1_
                   have HO455 := n2_
                   have BK393 := n3_
                   have HR449 := n4_
                   have HR462 := n5_
                   have HB := n6_
                   clear n0_; clear n1_; clear n2_; clear n3_; clear n4_; clear n5_; clear n6_; clear hb; clear ho93
                   refine hK.out _ _ trivial (fun hHeld => ?_)
                   clear hK; clear K
                   refine norm_ (a' := ?_) ?_ ?_
                   rotate_left
                   ·show Act.put _ (some 86) _ = _
                    simp only [Act.put, List.setIfInBounds_toArray, List.set_cons_zero, List.set_cons_succ, i64_w, i32_w]
                    rfl
                   refine one_ (i := 4) (N := some 84) #[true, true, true, true, true, true, true, false, true, true, true, false, false] rfl rfl (one_of HT_.out (by kernel_rfl)) (by decide) (fun K hK => ?_)
                   refine Kd.R_append_rows_step (Kd.int .i64) (w0 := w) w.heap.size (by rfl) (.tmp 80) (.tmp 83) 24 3 (.int .i64 0) 8 rfl Try.underlying24 info3 rfl (by decide) (by omega) v444 y443 y446 _ _ _ (fun k_ => some k_ ≠ (.slice Ao14 x5_1.length co14 : Value).ownBlock ∧ some k_ ≠ (v454 : Value).ownBlock) (fun _ => False) rfl rfl ?aO ?aR (fun _ _ h => h) (fun _ h => h.elim) ?aF ?aB ?aS ?aL ?_
                   (case aR => repeat (first | exact (mC HR449.out) | (with_reducible refine Kd.C_alloc ?_ _) | (with_reducible refine Kd.C_drewN ?_ _) | (with_reducible refine Kd.C_drew ?_)))
                   (case aB => exact (mBs HB.out))
                   (case aF => exact (fun k_ hk => ⟨Kd.fresh' (Kd.R_lt (mR HO_5.out)) k_ hk, Kd.fresh' (Kd.R_lt (mR HO455.out)) k_ hk⟩))
                   (case aO => exact (by (with_reducible repeat (first | apply Kd.R_alloc | apply Kd.R_drewN | apply Kd.R_drew)); exact Kd.R_mono HO445.out (fun _ hk => ⟨hk.1.2, hk.2⟩)))
                   (case aS => exact (below_size (mBs HB.out)))
                   (case aL => have := LMc82.out; omega)
                   intro v451 w94 ho hb hg hat
                   rw [← Ny450.out] at ho
                   have n0_ := Aside0.mk (Kd.R_after (ok := (fun k_ => some k_ ≠ (v454 : Value).ownBlock)) (by (with_reducible repeat (first | apply Kd.R_alloc | apply Kd.R_drewN | apply Kd.R_drew)); exact Kd.R_mono HO_5.out (fun _ hk => ⟨hk.2, hk.1.2⟩)) hg hat)
                   have n1_ := Aside0.mk (blk_grown (g := gb393) (o := .cells (cJ (rd_T32 l0 x6_1)) 32 (0, 0)) (mBK BK393.out) hg (Kd.R_ne HO445.out BK393.out (by decide)))
                   have n2_ := Aside0.mk (Kd.R_after (ok := (fun k_ => some k_ ≠ (.slice Ao14 x5_1.length co14 : Value).ownBlock)) (by (with_reducible repeat (first | apply Kd.R_alloc | apply Kd.R_drewN | apply Kd.R_drew)); exact Kd.R_mono HO455.out (fun _ hk => ⟨hk.1.2, hk.2⟩)) hg hat)
                   have n3_ := Aside0.mk (hb)
                   have n4_ := Aside0.mk ((show Kd.C (Kd.int .i64) w94 Ao14 y446.length y446 from by rw [Ny446.out]; exact Kd.C_take (m := (x8_3 : Int).toNat) ((Kd.R_reads' (Kd.R_after (ok := (fun k_ => some k_ ≠ (v454 : Value).ownBlock)) (by (with_reducible repeat (first | apply Kd.R_alloc | apply Kd.R_drewN | apply Kd.R_drew)); exact Kd.R_mono HO_5.out (fun _ hk => ⟨hk.2, hk.1.2⟩)) hg hat)).2.2) KL88.out))
                   have n5_ := Aside0.mk ((show Kd.C (Kd.int .i64) w94 A89 y459.length y459 from by rw [Ny459.out, KA89.out]; exact Kd.C_drop (m := (x8_3 : Int).toNat) (c := co14) ((Kd.R_reads' (Kd.R_after (ok := (fun k_ => some k_ ≠ (v454 : Value).ownBlock)) (by (with_reducible repeat (first | apply Kd.R_alloc | apply Kd.R_drewN | apply Kd.R_drew)); exact Kd.R_mono HO_5.out (fun _ hk => ⟨hk.2, hk.1.2⟩)) hg hat)).2.2) KL89.out ((Kd.R_reads' (Kd.R_after (ok := (fun k_ => some k_ ≠ (v454 : Value).ownBlock)) (by (with_reducible repeat (first | apply Kd.R_alloc | apply Kd.R_drewN | apply Kd.R_drew)); exact Kd.R_mono HO_5.out (fun _ hk => ⟨hk.2, hk.1.2⟩)) hg hat)).2.1)))
                   have n6_ := Aside0.mk (ho)
                   clear HO_5; clear BK393; clear HO455; clear HB; clear HR449; clear HR462; clear HO445
                   have HO_5 := n0_
                   have BK393 := n1_
                   have HO455 := n2_
                   have HB := n3_
                   have HR449 := n4_
                   have HR462 := n5_
                   have HO452 := n6_
                   clear n0_; clear n1_; clear n2_; clear n3_; clear n4_; clear n5_; clear n6_; clear ho; clear hb; clear hg; clear hat
                   refine hK.out _ _ trivial (fun hHeld => ?_)
                   clear hK; clear K
                   refine norm_ (a' := ?_) ?_ ?_
                   rotate_left
                   ·show Act.put _ (some 84) _ = _
                    simp only [Act.put, List.setIfInBounds_toArray, List.set_cons_zero, List.set_cons_succ, i64_w, i32_w]
                    rfl
                   exact norm_ (by simp only [putAll, Act.put, List.setIfInBounds_toArray, List.set_cons_zero, List.set_cons_succ]) (hCont (v444, v451, v454) _ ⟨(by (with_reducible repeat (first | apply Kd.R_alloc | apply Kd.R_drewN | apply Kd.R_drew)); exact Kd.R_mono HO452.out (fun _ hk => ⟨hk.2, hk.1⟩)), (by (with_reducible repeat (first | apply Kd.R_alloc | apply Kd.R_drewN | apply Kd.R_drew)); exact Kd.R_mono HO455.out (fun _ hk => ⟨hk.2, hk.1⟩)), (by (with_reducible repeat (first | apply Kd.R_alloc | apply Kd.R_drewN | apply Kd.R_drew)); exact Kd.R_mono HO_5.out (fun _ hk => ⟨hk.2, hk.1⟩)), (mC HR449.out), (mC HR462.out), (mBK BK393.out), (mBs HB.out)⟩)
                 ·skip
                  refine Kd.R_lit_step (Kd.int .i64) _ 3 ?hg (N := 86) ?hd (xs := ([x6_1] : List Int)) (inner := [.int .i64 x6_1]) (ok := fun _ => True) (okp := fun _ => True) ?hr ?hp (fun _ hk => hk) trivial (Below.refl _ _) (Nat.le_refl _) (by simp) ?_; (case hd => rfl); (case hg => rfl); (case hr => first | (go_simp; done) | (go_simp; rfl)); (case hp => exact (Reps.one (show Kd.M (Kd.int .i64) _ _ _ x6_1 [.int .i64 x6_1] from rfl) (Reps.none _ _)))
                  intro v454 w90 ho91 hb hg_ hnew_
                  clear hg_; clear hnew_
                  (first | rw [← Ny453.out] at ho91 | (simp only [Int.reduceToNat] at ho91; rw [← Ny453.out] at ho91))
                  have n0_ := Aside0.mk (Kd.R_elder' (mR HO_5.out) (Kd.R_base ho91) hb)
                  have n1_ := Aside0.mk (Kd.R_lower (Kd.R_new' ho91 (Kd.R_lt (mR HO_5.out))) (below_size (mBs HB.out)))
                  have n2_ := Aside0.mk (blk_below (g := gb393) (o := .cells (cJ (rd_T32 l0 x6_1)) 32 (0, 0)) (mBK BK393.out) hb)
                  have n3_ := Aside0.mk (Kd.C_below (mC HR449.out) hb)
                  have n4_ := Aside0.mk (Kd.C_below (mC HR462.out) hb)
                  have n5_ := Aside0.mk (below_step (mBs HB.out) hb)
                  clear HO_5; clear BK393; clear HR449; clear HR462; clear HB
                  have HO_5 := n0_
                  have HO455 := n1_
                  have BK393 := n2_
                  have HR449 := n3_
                  have HR462 := n4_
                  have HB := n5_
                  clear n0_; clear n1_; clear n2_; clear n3_; clear n4_; clear n5_; clear hb; clear ho91
                  refine hK.out _ _ trivial (fun hHeld => ?_)
                  clear hK; clear K
                  refine norm_ (a' := ?_) ?_ ?_
                  rotate_left
                  ·show Act.put _ (some 86) _ = _
                   simp only [Act.put, List.setIfInBounds_toArray, List.set_cons_zero, List.set_cons_succ, i64_w, i32_w]
                   rfl
                  refine one_ (i := 0) (N := some 80) #[true, true, true, true, false, true, true, false, true, true, true, false, false] rfl rfl (one_of HT_.out (by kernel_rfl)) (by decide) (fun K hK => ?_)
                  refine Kd.R_lit_step (Kd.int .i64) _ 3 ?hg (N := 80) ?hd (xs := ([] : List Int)) (inner := []) (ok := fun _ => True) (okp := fun _ => True) ?hr ?hp (fun _ hk => hk) trivial (Below.refl _ _) (Nat.le_refl _) (by simp) ?_; (case hd => rfl); (case hg => rfl); (case hr => first | (go_simp; done) | (go_simp; rfl)); (case hp => exact (Reps.none _ _))
                  intro v444 w92 ho93 hb hg_ hnew_
                  clear hg_; clear hnew_
                  (first | rw [← Ny443.out] at ho93 | (simp only [Int.reduceToNat] at ho93; rw [← Ny443.out] at ho93))
                  have n0_ := Aside0.mk (Kd.R_elder' (mR HO_5.out) (Kd.R_base ho93) hb)
                  have n1_ := Aside0.mk (Kd.R_elder' (mR HO455.out) (Kd.R_base ho93) hb)
                  have n2_ := Aside0.mk (Kd.R_lower (Kd.R_new' (Kd.R_new' ho93 (Kd.R_lt (mR HO_5.out))) (Kd.R_lt (mR HO455.out))) (below_size (mBs HB.out)))
                  have n3_ := Aside0.mk (blk_below (g := gb393) (o := .cells (cJ (rd_T32 l0 x6_1)) 32 (0, 0)) (mBK BK393.out) hb)
                  have n4_ := Aside0.mk (Kd.C_below (mC HR449.out) hb)
                  have n5_ := Aside0.mk (Kd.C_below (mC HR462.out) hb)
                  have n6_ := Aside0.mk (below_step (mBs HB.out) hb)
                  clear HO_5; clear HO455; clear BK393; clear HR449; clear HR462; clear HB
                  have HO_5 := n0_
                  have HO455 := n1_
                  have HO445 := n2_
                  have BK393 := n3_
                  have HR449 := n4_
                  have HR462 := n5_
                  have HB := n6_
                  clear n0_; clear n1_; clear n2_; clear n3_; clear n4_; clear n5_; clear n6_; clear hb; clear ho93
                  refine hK.out _ _ trivial (fun hHeld => ?_)
                  clear hK; clear K
                  refine norm_ (a' := ?_) ?_ ?_
                  rotate_left
                  ·show Act.put _ (some 80) _ = _
                   simp only [Act.put, List.setIfInBounds_toArray, List.set_cons_zero, List.set_cons_succ, i64_w, i32_w]
                   rfl
                  refine one_ (i := 4) (N := some 84) #[true, true, true, true, true, true, true, false, true, true, true, false, false] rfl rfl (one_of HT_.out (by kernel_rfl)) (by decide) (fun K hK => ?_)
                  refine Kd.R_append_rows_step (Kd.int .i64) (w0 := w) w.heap.size (by rfl) (.tmp 80) (.tmp 83) 24 3 (.int .i64 0) 8 rfl Try.underlying24 info3 rfl (by decide) (by omega) v444 y443 y446 _ _ _ (fun k_ => some k_ ≠ (.slice Ao14 x5_1.length co14 : Value).ownBlock ∧ some k_ ≠ (v454 : Value).ownBlock) (fun _ => False) rfl rfl ?aO ?aR (fun _ _ h => h) (fun _ h => h.elim) ?aF ?aB ?aS ?aL ?_
                  (case aR => repeat (first | exact (mC HR449.out) | (with_reducible refine Kd.C_alloc ?_ _) | (with_reducible refine Kd.C_drewN ?_ _) | (with_reducible refine Kd.C_drew ?_)))
                  (case aB => exact (mBs HB.out))
                  (case aF => exact (fun k_ hk => ⟨Kd.fresh' (Kd.R_lt (mR HO_5.out)) k_ hk, Kd.fresh' (Kd.R_lt (mR HO455.out)) k_ hk⟩))
                  (case aO => exact (by (with_reducible repeat (first | apply Kd.R_alloc | apply Kd.R_drewN | apply Kd.R_drew)); exact Kd.R_mono HO445.out (fun _ hk => ⟨hk.1.2, hk.2⟩)))
                  (case aS => exact (below_size (mBs HB.out)))
                  (case aL => have := LMc82.out; omega)
                  intro v451 w94 ho hb hg hat
                  rw [← Ny450.out] at ho
                  have n0_ := Aside0.mk (Kd.R_after (ok := (fun k_ => some k_ ≠ (v454 : Value).ownBlock)) (by (with_reducible repeat (first | apply Kd.R_alloc | apply Kd.R_drewN | apply Kd.R_drew)); exact Kd.R_mono HO_5.out (fun _ hk => ⟨hk.1.2, hk.2⟩)) hg hat)
                  have n1_ := Aside0.mk (blk_grown (g := gb393) (o := .cells (cJ (rd_T32 l0 x6_1)) 32 (0, 0)) (mBK BK393.out) hg (Kd.R_ne HO445.out BK393.out (by decide)))
                  have n2_ := Aside0.mk (Kd.R_after (ok := (fun k_ => some k_ ≠ (.slice Ao14 x5_1.length co14 : Value).ownBlock)) (by (with_reducible repeat (first | apply Kd.R_alloc | apply Kd.R_drewN | apply Kd.R_drew)); exact Kd.R_mono HO455.out (fun _ hk => ⟨hk.1.2, hk.2⟩)) hg hat)
                  have n3_ := Aside0.mk (hb)
                  have n4_ := Aside0.mk ((show Kd.C (Kd.int .i64) w94 Ao14 y446.length y446 from by rw [Ny446.out]; exact Kd.C_take (m := (x8_3 : Int).toNat) ((Kd.R_reads' (Kd.R_after (ok := (fun k_ => some k_ ≠ (v454 : Value).ownBlock)) (by (with_reducible repeat (first | apply Kd.R_alloc | apply Kd.R_drewN | apply Kd.R_drew)); exact Kd.R_mono HO_5.out (fun _ hk => ⟨hk.1.2, hk.2⟩)) hg hat)).2.2) KL88.out))
                  have n5_ := Aside0.mk ((show Kd.C (Kd.int .i64) w94 A89 y459.length y459 from by rw [Ny459.out, KA89.out]; exact Kd.C_drop (m := (x8_3 : Int).toNat) (c := co14) ((Kd.R_reads' (Kd.R_after (ok := (fun k_ => some k_ ≠ (v454 : Value).ownBlock)) (by (with_reducible repeat (first | apply Kd.R_alloc | apply Kd.R_drewN | apply Kd.R_drew)); exact Kd.R_mono HO_5.out (fun _ hk => ⟨hk.1.2, hk.2⟩)) hg hat)).2.2) KL89.out ((Kd.R_reads' (Kd.R_after (ok := (fun k_ => some k_ ≠ (v454 : Value).ownBlock)) (by (with_reducible repeat (first | apply Kd.R_alloc | apply Kd.R_drewN | apply Kd.R_drew)); exact Kd.R_mono HO_5.out (fun _ hk => ⟨hk.1.2, hk.2⟩)) hg hat)).2.1)))
                  have n6_ := Aside0.mk (ho)
                  clear HO_5; clear BK393; clear HO455; clear HB; clear HR449; clear HR462; clear HO445
                  have HO_5 := n0_
                  have BK393 := n1_
                  have HO455 := n2_
                  have HB := n3_
                  have HR449 := n4_
                  have HR462 := n5_
                  have HO452 := n6_
                  clear n0_; clear n1_; clear n2_; clear n3_; clear n4_; clear n5_; clear n6_; clear ho; clear hb; clear hg; clear hat
                  refine hK.out _ _ trivial (fun hHeld => ?_)
                  clear hK; clear K
                  refine norm_ (a' := ?_) ?_ ?_
                  rotate_left
                  ·show Act.put _ (some 84) _ = _
                   simp only [Act.put, List.setIfInBounds_toArray, List.set_cons_zero, List.set_cons_succ, i64_w, i32_w]
                   rfl
                  exact norm_ (by simp only [putAll, Act.put, List.setIfInBounds_toArray, List.set_cons_zero, List.set_cons_succ]) (hCont (v444, v451, v454) _ ⟨(by (with_reducible repeat (first | apply Kd.R_alloc | apply Kd.R_drewN | apply Kd.R_drew)); exact Kd.R_mono HO452.out (fun _ hk => ⟨hk.2, hk.1⟩)), (by (with_reducible repeat (first | apply Kd.R_alloc | apply Kd.R_drewN | apply Kd.R_drew)); exact Kd.R_mono HO455.out (fun _ hk => ⟨hk.2, hk.1⟩)), (by (with_reducible repeat (first | apply Kd.R_alloc | apply Kd.R_drewN | apply Kd.R_drew)); exact Kd.R_mono HO_5.out (fun _ hk => ⟨hk.2, hk.1⟩)), (mC HR449.out), (mC HR462.out), (mBK BK393.out), (mBs HB.out)⟩)
                rintro ⟨v444, v451, v454⟩ w95 ⟨h0_, h1_, h2_, h3_, h4_, h5_, h6_⟩
                have n0_ : Aside0 (Kd.R (Kd.int .i64) 3 w95 w.heap.size (fun k_ => some k_ ≠ (v454 : Value).ownBlock ∧ some k_ ≠ (.slice Ao14 x5_1.length co14 : Value).ownBlock) v451 y450) := ⟨h0_⟩
                have n1_ : Aside0 (Kd.R (Kd.int .i64) 3 w95 w.heap.size (fun k_ => some k_ ≠ (v451 : Value).ownBlock ∧ some k_ ≠ (.slice Ao14 x5_1.length co14 : Value).ownBlock) v454 y453) := ⟨h1_⟩
                have n2_ : Aside0 (Kd.R (Kd.int .i64) 3 w95 w.heap.size (fun k_ => some k_ ≠ (v451 : Value).ownBlock ∧ some k_ ≠ (v454 : Value).ownBlock) (.slice Ao14 x5_1.length co14) x5_1) := ⟨h2_⟩
                have n3_ : Aside0 (Kd.C (Kd.int .i64) w95 Ao14 y446.length y446) := ⟨h3_⟩
                have n4_ : Aside0 (Kd.C (Kd.int .i64) w95 A89 y459.length y459) := ⟨h4_⟩
                have n5_ : Aside0 (w95.heap[gb393]? = some (.cells (cJ (rd_T32 l0 x6_1)) 32 (0, 0))) := ⟨h5_⟩
                have n6_ : Aside0 (Below w.heap.size w w95) := ⟨h6_⟩
                clear HO_5; clear BK393; clear HB; clear h0_; clear h1_; clear h2_; clear h3_; clear h4_; clear h5_; clear h6_
                have HO452 := n0_
                have HO455 := n1_
                have HO_5 := n2_
                have HR449 := n3_
                have HR462 := n4_
                have BK393 := n5_
                have HB := n6_
                clear n0_; clear n1_; clear n2_; clear n3_; clear n4_; clear n5_; clear n6_
                have hHeld := trivial
                obtain ⟨Ao97, co97, eo97⟩ := Kd.R_slice HO455.out
                (first | subst eo97 | (injection eo97 with f1_ f2_ f3_; have f4_ := f1_.symm; have f5_ := f3_.symm; clear f1_ f2_ f3_; subst f4_; subst f5_))
                refine norm_ (a' := ?_) ?_ ?_
                rotate_left
                ·simp only [putAll, Act.put, List.setIfInBounds_toArray, List.set_cons_zero, List.set_cons_succ]
                 rfl
                refine one_ (i := 7) (N := some 87) #[true, true, true, true, true, true, true, true, true, true, true, false, false] rfl rfl (one_of HT_.out (by kernel_rfl)) (by decide) (fun K hK => ?_)
                refine Kd.R_append_rows_step (Kd.int .i64) (w0 := w) w.heap.size (by rfl) (.tmp 84) (.tmp 86) 24 3 (.int .i64 0) 8 rfl Try.underlying24 info3 rfl (by decide) (by omega) v451 y450 y453 _ _ _ (fun k_ => some k_ ≠ (.slice Ao14 x5_1.length co14 : Value).ownBlock ∧ some k_ ≠ (.slice Ao97 y453.length co97 : Value).ownBlock) (fun _ => False) rfl rfl ?aO ?aR (fun _ _ h => h) (fun _ h => h.elim) ?aF ?aB ?aS ?aL ?_
                (case aR => repeat (first | exact (Kd.R_reads' HO455.out).2.2 | (with_reducible refine Kd.C_alloc ?_ _) | (with_reducible refine Kd.C_drewN ?_ _) | (with_reducible refine Kd.C_drew ?_)))
                (case aB => exact (mBs HB.out))
                (case aF => exact (fun k_ hk => ⟨Kd.fresh' (Kd.R_lt (mR HO_5.out)) k_ hk, Kd.fresh' (Kd.R_lt (mR HO455.out)) k_ hk⟩))
                (case aO => exact (by (with_reducible repeat (first | apply Kd.R_alloc | apply Kd.R_drewN | apply Kd.R_drew)); exact Kd.R_mono HO452.out (fun _ hk => ⟨hk.2, hk.1⟩)))
                (case aS => exact (below_size (mBs HB.out)))
                (case aL => have := LMc83.out; omega)
                intro v457 w96 ho hb hg hat
                rw [← Ny456.out] at ho
                have n0_ := Aside0.mk (Kd.R_after (ok := (fun k_ => some k_ ≠ (.slice Ao97 y453.length co97 : Value).ownBlock)) (by (with_reducible repeat (first | apply Kd.R_alloc | apply Kd.R_drewN | apply Kd.R_drew)); exact Kd.R_mono HO_5.out (fun _ hk => ⟨hk.2, hk.1⟩)) hg hat)
                have n1_ := Aside0.mk (blk_grown (g := gb393) (o := .cells (cJ (rd_T32 l0 x6_1)) 32 (0, 0)) (mBK BK393.out) hg (Kd.R_ne HO452.out BK393.out (by decide)))
                have n2_ := Aside0.mk (Kd.R_after (ok := (fun k_ => some k_ ≠ (.slice Ao14 x5_1.length co14 : Value).ownBlock)) (by (with_reducible repeat (first | apply Kd.R_alloc | apply Kd.R_drewN | apply Kd.R_drew)); exact Kd.R_mono HO455.out (fun _ hk => ⟨hk.2, hk.1⟩)) hg hat)
                have n3_ := Aside0.mk (hb)
                have n4_ := Aside0.mk ((show Kd.C (Kd.int .i64) w96 Ao14 y446.length y446 from by rw [Ny446.out]; exact Kd.C_take (m := (x8_3 : Int).toNat) ((Kd.R_reads' (Kd.R_after (ok := (fun k_ => some k_ ≠ (.slice Ao97 y453.length co97 : Value).ownBlock)) (by (with_reducible repeat (first | apply Kd.R_alloc | apply Kd.R_drewN | apply Kd.R_drew)); exact Kd.R_mono HO_5.out (fun _ hk => ⟨hk.2, hk.1⟩)) hg hat)).2.2) KL88.out))
                have n5_ := Aside0.mk ((show Kd.C (Kd.int .i64) w96 A89 y459.length y459 from by rw [Ny459.out, KA89.out]; exact Kd.C_drop (m := (x8_3 : Int).toNat) (c := co14) ((Kd.R_reads' (Kd.R_after (ok := (fun k_ => some k_ ≠ (.slice Ao97 y453.length co97 : Value).ownBlock)) (by (with_reducible repeat (first | apply Kd.R_alloc | apply Kd.R_drewN | apply Kd.R_drew)); exact Kd.R_mono HO_5.out (fun _ hk => ⟨hk.2, hk.1⟩)) hg hat)).2.2) KL89.out ((Kd.R_reads' (Kd.R_after (ok := (fun k_ => some k_ ≠ (.slice Ao97 y453.length co97 : Value).ownBlock)) (by (with_reducible repeat (first | apply Kd.R_alloc | apply Kd.R_drewN | apply Kd.R_drew)); exact Kd.R_mono HO_5.out (fun _ hk => ⟨hk.2, hk.1⟩)) hg hat)).2.1)))
                have n6_ := Aside0.mk (ho)
                clear HO_5; clear BK393; clear HO455; clear HB; clear HR449; clear HR462; clear HO452
                have HO_5 := n0_
                have BK393 := n1_
                have HO455 := n2_
                have HB := n3_
                have HR449 := n4_
                have HR462 := n5_
                have HO458 := n6_
                clear n0_; clear n1_; clear n2_; clear n3_; clear n4_; clear n5_; clear n6_; clear ho; clear hb; clear hg; clear hat
                refine hK.out _ _ trivial (fun hHeld => ?_)
                clear hK; clear K
                refine norm_ (a' := ?_) ?_ ?_
                rotate_left
                ·show Act.put _ (some 87) _ = _
                 simp only [Act.put, List.setIfInBounds_toArray, List.set_cons_zero, List.set_cons_succ, i64_w, i32_w]
                 rfl
                refine one_ (i := 11) (N := some 91) #[true, true, true, true, true, true, true, true, true, true, true, true, false] rfl rfl (one_of HT_.out (by kernel_rfl)) (by decide) (fun K hK => ?_)
                refine Kd.R_append_rows_step (Kd.int .i64) (w0 := w) w.heap.size (by rfl) (.tmp 87) (.tmp 90) 24 3 (.int .i64 0) 8 rfl Try.underlying24 info3 rfl (by decide) (by omega) v457 y456 y459 _ _ _ (fun k_ => some k_ ≠ (.slice Ao14 x5_1.length co14 : Value).ownBlock ∧ some k_ ≠ (.slice Ao97 y453.length co97 : Value).ownBlock) (fun _ => False) rfl rfl ?aO ?aR (fun _ _ h => h) (fun _ h => h.elim) ?aF ?aB ?aS ?aL ?_
                (case aR => repeat (first | exact (mC HR462.out) | (with_reducible refine Kd.C_alloc ?_ _) | (with_reducible refine Kd.C_drewN ?_ _) | (with_reducible refine Kd.C_drew ?_)))
                (case aB => exact (mBs HB.out))
                (case aF => exact (fun k_ hk => ⟨Kd.fresh' (Kd.R_lt (mR HO_5.out)) k_ hk, Kd.fresh' (Kd.R_lt (mR HO455.out)) k_ hk⟩))
                (case aO => exact (mR HO458.out))
                (case aS => exact (below_size (mBs HB.out)))
                (case aL => have := LMc86.out; omega)
                intro v464 w98 ho hb hg hat
                rw [← Ny463.out] at ho
                have n0_ := Aside0.mk (Kd.R_after (ok := (fun k_ => some k_ ≠ (.slice Ao97 y453.length co97 : Value).ownBlock)) (mR HO_5.out) hg hat)
                have n1_ := Aside0.mk (blk_grown (g := gb393) (o := .cells (cJ (rd_T32 l0 x6_1)) 32 (0, 0)) (mBK BK393.out) hg (Kd.R_ne HO458.out BK393.out (by decide)))
                have n2_ := Aside0.mk (Kd.R_after (ok := (fun k_ => some k_ ≠ (.slice Ao14 x5_1.length co14 : Value).ownBlock)) (mR HO455.out) hg hat)
                have n3_ := Aside0.mk (hb)
                have n4_ := Aside0.mk ((show Kd.C (Kd.int .i64) w98 Ao14 y446.length y446 from by rw [Ny446.out]; exact Kd.C_take (m := (x8_3 : Int).toNat) ((Kd.R_reads' (Kd.R_after (ok := (fun k_ => some k_ ≠ (.slice Ao97 y453.length co97 : Value).ownBlock)) (mR HO_5.out) hg hat)).2.2) KL88.out))
                have n5_ := Aside0.mk ((show Kd.C (Kd.int .i64) w98 A89 y459.length y459 from by rw [Ny459.out, KA89.out]; exact Kd.C_drop (m := (x8_3 : Int).toNat) (c := co14) ((Kd.R_reads' (Kd.R_after (ok := (fun k_ => some k_ ≠ (.slice Ao97 y453.length co97 : Value).ownBlock)) (mR HO_5.out) hg hat)).2.2) KL89.out ((Kd.R_reads' (Kd.R_after (ok := (fun k_ => some k_ ≠ (.slice Ao97 y453.length co97 : Value).ownBlock)) (mR HO_5.out) hg hat)).2.1)))
                have n6_ := Aside0.mk (ho)
                clear HO_5; clear BK393; clear HO455; clear HB; clear HR449; clear HR462; clear HO458
                have HO_5 := n0_
                have BK393 := n1_
                have HO455 := n2_
                have HB := n3_
                have HR449 := n4_
                have HR462 := n5_
                have HO465 := n6_
                clear n0_; clear n1_; clear n2_; clear n3_; clear n4_; clear n5_; clear n6_; clear ho; clear hb; clear hg; clear hat
                refine hK.out _ _ trivial (fun hHeld => ?_)
                clear hK; clear K
                refine norm_ (a' := ?_) ?_ ?_
                rotate_left
                ·show Act.put _ (some 91) _ = _
                 simp only [Act.put, List.setIfInBounds_toArray, List.set_cons_zero, List.set_cons_succ, i64_w, i32_w]
                 rfl
                refine plan_ [(12, 5)] ?_
                refine planP_ (v := ?_) (a' := ?_) rfl rfl (any_of HT_.out (by kernel_rfl)) (fun _ _ _ h => h) (Or.inl ⟨by rfl, ?_⟩) ?_ ?_; rotate_left; (intro w'; go_simp; with_reducible rfl); rotate_left; (simp only [Act.put, List.setIfInBounds_toArray, List.set_cons_zero, List.set_cons_succ, i64_w, i32_w]; rfl)
                refine planEnd_ ?_
                refine done_ (done_of HT_.out (by kernel_rfl)) ?_
                try go_wp2
                go_roundg k3
                case measure => have := HK1.out; have := HJ6.out; have := HK3.out; omega
                case rel => exact ⟨(y463), (wrap64 (x6_1 + 1)), ez, H', ⟨by have := HK1.out; have := HJ6.out; have := HK3.out; omega⟩, ⟨by (with_reducible repeat (first | apply Kd.R_alloc | apply Kd.R_drewN | apply Kd.R_drew)); exact Kd.R_mono HO465.out (fun _ hk => trivial)⟩, ⟨mBs HB.out⟩⟩
               ·rw [if_neg c86] at H
                exact absurd H (by simp)
              ·rw [if_neg c83] at H
               exact absurd H (by simp)
             ·rw [if_neg c82] at H
              exact absurd H (by simp)
            ·rw [if_neg c81] at H
             exact absurd H (by simp)
           ·rw [if_neg c80] at H
            exact absurd H (by simp)
    ·rw [if_neg c6] at H
     exact absurd H (by simp)
   ·rw [if_neg c5] at H
    have c5b0 : decide (x6_1 < (l0.length : Int)) = false := decide_eq_false c5
    clear c5
    obtain ⟨y466, hy466⟩ : ∃ y_ : List Int, y_ = (([] : List Int)) := ⟨_, rfl⟩
    replace H : (prebendref19_Due.l2 k1 l0 x5_1 y466 0) = some r := mH hy466 H
    have Ny466 := Aside0.mk hy466
    clear hy466
    have H' := Aside0.mk H
    clear H
    go_wp2_with (first | ((with_reducible refine gate_dst (N := 92) rfl ?_); refine Kd.R_lit (Kd.int .i64) _ 3 ?hg (N := 92) ?hd (xs := ([] : List Int)) (inner := []) (ok := fun _ => True) (okp := fun _ => True) ?hr ?hp (fun _ hk => hk) trivial (Below.refl _ _) (Nat.le_refl _) (by simp) ?_; (case hd => rfl); (case hg => rfl); (case hr => first | (go_simp; done) | (go_simp; rfl)); (case hp => exact (Reps.none _ _)); intro v467 w99 ho100 hb hg_ hnew_; clear hg_ hnew_; (first | rw [← Ny466.out] at ho100 | (simp only [Int.reduceToNat] at ho100; rw [← Ny466.out] at ho100)); have n0_ := Aside0.mk (Kd.R_elder' (mR HO_5.out) (Kd.R_base ho100) hb); have n1_ := Aside0.mk (Kd.R_lower (Kd.R_new' ho100 (Kd.R_lt (mR HO_5.out))) (below_size (mB HB.out))); have n2_ := Aside0.mk (below_step (mB HB.out) hb); clear HO_5; clear HB; have HO_5 := n0_; have HO468 := n1_; have HB := n2_; clear n0_ n1_ n2_; clear hb ho100))
    go_loopg [10, 11] k1 (fun kq v10 v11 w' => ∃ (x10_2 : List Int) (x11_2 : Int), v11 = .int .i64 x11_2 ∧ Aside0 (prebendref19_Due.l2 kq l0 x5_1 x10_2 x11_2 = some r) ∧ Aside0 (kq ≤ k1) ∧ Aside0 (Kd.R (Kd.int .i64) 3 w' w.heap.size (fun k_ => some k_ ≠ (v10 : Value).ownBlock) u5 x5_1) ∧ Aside0 (Kd.R (Kd.int .i64) 3 w' w.heap.size (fun k_ => some k_ ≠ (u5 : Value).ownBlock) v10 x10_2) ∧ Aside0 (Below w.heap.size w w'))
    case atStart => exact ⟨(y466), (0), ez, H', ⟨Nat.le_refl _⟩, ⟨by (with_reducible repeat (first | apply Kd.R_alloc | apply Kd.R_drewN | apply Kd.R_drew)); exact Kd.R_mono HO_5.out (fun _ hk => hk.2)⟩, ⟨by (with_reducible repeat (first | apply Kd.R_alloc | apply Kd.R_drewN | apply Kd.R_drew)); exact Kd.R_mono HO468.out (fun _ hk => hk.2)⟩, ⟨mB HB.out⟩⟩
    case round =>
     clear H'
     (try clear c1); (try clear p2); (try clear c5); (try clear c5b0); (try clear c6); (try clear p6); (try clear c8); (try clear q8); (try clear c15); (try clear c15b0); (try clear c17); (try clear p64); (try clear c80); (try clear c80b0); (try clear c80b1); (try clear c81); (try clear c81b0); (try clear c81b1); (try clear c82); (try clear c83); (try clear c84); (try clear c84b0); (try clear c85); (try clear c85b0); (try clear c86); (try clear q88); (try clear c89); (try clear q89); (try clear q089); (try clear q88); (try clear q89)
     obtain ⟨x10_2, x11_2, rfl, HA, HK2, HO_5, HO_10, HB⟩ := hrel
     cases gk with
     | zero => exact absurd HA.out (by simp [prebendref19_Due.l2])
     | succ k2 =>
      have H := HA.out
      clear HA
      simp only [prebendref19_Due.l2] at H
      by_cases c101 : x11_2 < (x5_1.length : Int)
      ·rw [if_pos c101] at H
       have c101b0 : decide (x11_2 < (x5_1.length : Int)) = true := decide_eq_true c101
       clear c101
       by_cases c102 : 0 ≤ x11_2
       ·rw [if_pos c102] at H
        have c102b0 : decide (0 ≤ x11_2) = true := decide_eq_true c102
        clear c102
        by_cases c103 : 0 ≤ (rd x5_1 x11_2)
        ·rw [if_pos c103] at H
         have c103b0 : decide (0 ≤ (rd x5_1 x11_2)) = true := decide_eq_true c103
         clear c103
         by_cases c104 : (rd x5_1 x11_2) < (l0.length : Int)
         ·rw [if_pos c104] at H
          have c104b0 : decide ((rd x5_1 x11_2) < (l0.length : Int)) = true := decide_eq_true c104
          clear c104
          obtain ⟨y471, hy471⟩ : ∃ y_ : List Int, y_ = (([(rd_T32 l0 (rd x5_1 x11_2)).f0] : List Int)) := ⟨_, rfl⟩
          replace H : (if x10_2.length + y471.length < 17592186044416 then (prebendref19_Due.l2 k2 l0 x5_1 (x10_2 ++ y471) (wrap64 (x11_2 + 1))) else (none)) = some r := mH hy471 H
          have Ny471 := Aside0.mk hy471
          clear hy471
          by_cases c105 : x10_2.length + y471.length < 17592186044416
          ·rw [if_pos c105] at H
           have LMc105 := Aside0.mk c105
           clear c105
           obtain ⟨y474, hy474⟩ : ∃ y_ : List Int, y_ = (x10_2 ++ y471) := ⟨_, rfl⟩
           replace H : (prebendref19_Due.l2 k2 l0 x5_1 y474 (wrap64 (x11_2 + 1))) = some r := mH hy474 H
           have Ny474 := Aside0.mk hy474
           clear hy474
           have H' := Aside0.mk H
           clear H
           obtain ⟨Ao106, co106, eo106⟩ := Kd.R_slice HO_5.out
           subst eo106
           have p469 : 0 ≤ (x11_2 : Int) := oda
           have q469 : x11_2 < (x5_1.length : Int) := oda
           obtain ⟨ad469, e469, hx469_0⟩ := Kd.at_int (Kd.R_reads' HO_5.out).2.2 x11_2 p469 q469
           cases e469
           replace p469 := eq_true p469
           replace q469 := eq_true q469
           have p470 : 0 ≤ ((rd x5_1 x11_2) : Int) := oda
           have q470 : (rd x5_1 x11_2) < (l0.length : Int) := oda
           obtain ⟨ad470, e470, hx470_0, hx470_1, hx470_2, hx470_3, hx470_4, hx470_5, hx470_6, hx470_7, hx470_8, hx470_9, hx470_10, hx470_11⟩ := at_T32 HR0.out (rd x5_1 x11_2) p470 q470
           cases e470
           replace hx470_0 := hs_ HB.out hx470_0
           replace hx470_1 := hs_ HB.out hx470_1
           replace hx470_2 := hs_ HB.out hx470_2
           replace hx470_3 := hs_ HB.out hx470_3
           replace hx470_4 := hs_ HB.out hx470_4
           replace hx470_5 := hs_ HB.out hx470_5
           replace hx470_6 := hs_ HB.out hx470_6
           replace hx470_7 := hs_ HB.out hx470_7
           replace hx470_8 := hs_ HB.out hx470_8
           replace hx470_9 := hs_ HB.out hx470_9
           replace hx470_10 := hs_ HB.out hx470_10
           replace hx470_11 := hs_ HB.out hx470_11
           replace p470 := eq_true p470
           replace q470 := eq_true q470
           go_wp2_with (first | ((with_reducible refine gate_dst (N := 108) rfl ?_); refine Kd.R_lit (Kd.int .i64) _ 3 ?hg (N := 108) ?hd (xs := ([(rd_T32 l0 (rd x5_1 x11_2)).f0] : List Int)) (inner := [.int .i64 ((rd_T32 l0 (rd x5_1 x11_2)).f0)]) (ok := fun _ => True) (okp := fun _ => True) ?hr ?hp (fun _ hk => hk) trivial (Below.refl _ _) (Nat.le_refl _) (by simp) ?_; (case hd => rfl); (case hg => rfl); (case hr => first | (go_simp; done) | (go_simp; rfl)); (case hp => exact (Reps.one (show Kd.M (Kd.int .i64) _ _ _ ((rd_T32 l0 (rd x5_1 x11_2)).f0) [.int .i64 ((rd_T32 l0 (rd x5_1 x11_2)).f0)] from rfl) (Reps.none _ _))); intro v472 w107 ho108 hb hg_ hnew_; clear hg_ hnew_; (first | rw [← Ny471.out] at ho108 | (simp only [Int.reduceToNat] at ho108; rw [← Ny471.out] at ho108)); have n0_ := Aside0.mk (Kd.R_elder' (mR HO_5.out) (Kd.R_base ho108) hb); have n1_ := Aside0.mk (Kd.R_elder' (mR HO_10.out) (Kd.R_base ho108) hb); have n2_ := Aside0.mk (Kd.R_lower (Kd.R_new' (Kd.R_new' ho108 (Kd.R_lt (mR HO_5.out))) (Kd.R_lt (mR HO_10.out))) (below_size (mB HB.out))); have n3_ := Aside0.mk (below_step (mB HB.out) hb); clear HO_5; clear HO_10; clear HB; have HO_5 := n0_; have HO_10 := n1_; have HO473 := n2_; have HB := n3_; clear n0_ n1_ n2_ n3_; clear hb ho108; obtain ⟨Ao110, co110, eo110⟩ := Kd.R_slice HO473.out; subst eo110) | ((with_reducible refine gate_builtin (b := .append) (xs := #[.tmp 99, .tmp 108]) rfl ?_); at_builtin; refine Kd.R_append_rows (Kd.int .i64) (w0 := w) w.heap.size rfl (.tmp 99) (.tmp 108) 24 3 (.int .i64 0) 8 rfl Try.underlying24 info3 rfl (by decide) (by omega) u10 x10_2 y471 _ _ _ (fun k_ => some k_ ≠ (.slice (some ad469) x5_1.length co106 : Value).ownBlock ∧ some k_ ≠ (.slice Ao110 y471.length co110 : Value).ownBlock) (fun _ => False) rfl rfl ?aO ?aR (fun _ _ h => h) (fun _ h => h.elim) ?aF ?aB ?aS ?aL ?_; (case aR => repeat (first | exact (Kd.R_reads' HO473.out).2.2 | (with_reducible refine Kd.C_alloc ?_ _) | (with_reducible refine Kd.C_drewN ?_ _) | (with_reducible refine Kd.C_drew ?_))); (case aB => exact (mB HB.out)); (case aF => exact (fun k_ hk => ⟨Kd.fresh' (Kd.R_lt (mR HO_5.out)) k_ hk, Kd.fresh' (Kd.R_lt (mR HO473.out)) k_ hk⟩)); (case aO => exact (mR HO_10.out)); (case aS => exact (below_size (mB HB.out))); (case aL => have := LMc105.out; omega); intro v475 w109 ho hb hg hat; rw [← Ny474.out] at ho; have n0_ := Aside0.mk (Kd.R_after (ok := (fun k_ => some k_ ≠ (.slice Ao110 y471.length co110 : Value).ownBlock)) (by (with_reducible repeat (first | apply Kd.R_alloc | apply Kd.R_drewN | apply Kd.R_drew)); exact Kd.R_mono HO_5.out (fun _ hk => ⟨hk.2, hk.1⟩)) hg hat); have n1_ := Aside0.mk (Kd.R_after (ok := (fun k_ => some k_ ≠ (.slice (some ad469) x5_1.length co106 : Value).ownBlock)) (by (with_reducible repeat (first | apply Kd.R_alloc | apply Kd.R_drewN | apply Kd.R_drew)); exact Kd.R_mono HO473.out (fun _ hk => ⟨hk.1.2, hk.2⟩)) hg hat); have n2_ := Aside0.mk (hb); have n3_ := Aside0.mk (ho); clear HO_5; clear HO473; clear HB; clear HO_10; have HO_5 := n0_; have HO473 := n1_; have HB := n2_; have HO476 := n3_; clear n0_ n1_ n2_ n3_; clear ho hb hg hat))
           go_roundg k2
           case measure => have := HK1.out; have := HK2.out; omega
           case rel => exact ⟨(y474), (wrap64 (x11_2 + 1)), ez, H', ⟨by have := HK1.out; have := HK2.out; omega⟩, ⟨by (with_reducible repeat (first | apply Kd.R_alloc | apply Kd.R_drewN | apply Kd.R_drew)); exact Kd.R_mono HO_5.out (fun _ hk => hk.2)⟩, ⟨by (with_reducible repeat (first | apply Kd.R_alloc | apply Kd.R_drewN | apply Kd.R_drew)); exact Kd.R_mono HO476.out (fun _ hk => hk.1)⟩, ⟨mB HB.out⟩⟩
          ·rw [if_neg c105] at H
           exact absurd H (by simp)
         ·rw [if_neg c104] at H
          exact absurd H (by simp)
        ·rw [if_neg c103] at H
         exact absurd H (by simp)
       ·rw [if_neg c102] at H
        exact absurd H (by simp)
      ·rw [if_neg c101] at H
       have c101b0 : decide (x11_2 < (x5_1.length : Int)) = false := decide_eq_false c101
       clear c101
       obtain rfl := Option.some.inj H
       obtain ⟨Ao111, co111, eo111⟩ := Kd.R_slice HO_5.out
       subst eo111
       go_wp2
       go_ret
       exact ⟨_, by first | rfl | (simp [errW_none, errW_some] <;> rfl) | (simp [*, errW_none, errW_some] <;> rfl), by (with_reducible repeat (first | apply Kd.R_alloc | apply Kd.R_drewN | apply Kd.R_drew)); exact Kd.R_mono HO_10.out (fun _ hk => trivial), by repeat (first | (with_reducible first | exact HB.out | apply below_alloc | apply pw_below_drewN | apply below_drew1) | exact HB.out)⟩

end Go.Proofs.Ytkhfgflcanmefaa.PAll
end
