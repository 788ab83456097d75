/- Words, plain functions and contracts of the functions that the law of this claim reaches; no conditions. -/
import Derived.Test.YtjmkpcnekghmhaaBEntryBack1
section
namespace Go.Proofs.Ytjmkpcnekghmhaa.PAll
open Go.RowKit Go.Proofs.YtjmkpcnekghmhaaW.PrintWords Go.Proofs.YtjmkpcnekghmhaaW.PrintLast Go.Proofs.YtjmkpcnekghmhaaW.PrintMore
attribute [local go_sem] max2_int min2_int max_two min_two max_three min_three max_four min_four   -- for this text's walks alone
set_option linter.unusedVariables false
set_option linter.unusedSimpArgs false

attribute [local go_sem high] eqA87
/-! ### prebendref12_Same: function 32 -/
mutual
def prebendref12_Same.j0 : Nat → Bool → Int → Int → Int → ByteArray → ByteArray → List Int → List (S87) → Int → Int → Int → ByteArray → ByteArray → List Int → List (S87) → Option (Bool)
  | 0, _, _, _, _, _, _, _, _, _, _, _, _, _, _, _ => none
  | k + 1, x57, x222000, x222001, x222002, x222003, x222004, x222005, x222006, x223000, x223001, x223002, x223003, x223004, x223005, x223006 => if x57 = true then (some false) else (prebendref12_Same.l0 k 0 x222000 x222001 x222002 x222003 x222004 x222005 x222006 x223000 x223001 x223002 x223003 x223004 x223005 x223006)
def prebendref12_Same.l0 : Nat → Int → Int → Int → Int → ByteArray → ByteArray → List Int → List (S87) → Int → Int → Int → ByteArray → ByteArray → List Int → List (S87) → Option (Bool)
  | 0, _, _, _, _, _, _, _, _, _, _, _, _, _, _, _ => none
  | k + 1, x5, x222000, x222001, x222002, x222003, x222004, x222005, x222006, x223000, x223001, x223002, x223003, x223004, x223005, x223006 => if x5 < (x222005.length : Int) then (if 0 ≤ x5 then (if x5 < (x223005.length : Int) then (if (rd x222005 x5) = (rd x223005 x5) then (prebendref12_Same.l0 k (wrap64 (x5 + 1)) x222000 x222001 x222002 x222003 x222004 x222005 x222006 x223000 x223001 x223002 x223003 x223004 x223005 x223006) else (some false)) else (none)) else (none)) else (prebendref12_Same.l1 k 0 x222000 x222001 x222002 x222003 x222004 x222005 x222006 x223000 x223001 x223002 x223003 x223004 x223005 x223006)
def prebendref12_Same.l1 : Nat → Int → Int → Int → Int → ByteArray → ByteArray → List Int → List (S87) → Int → Int → Int → ByteArray → ByteArray → List Int → List (S87) → Option (Bool)
  | 0, _, _, _, _, _, _, _, _, _, _, _, _, _, _, _ => none
  | k + 1, x6, x222000, x222001, x222002, x222003, x222004, x222005, x222006, x223000, x223001, x223002, x223003, x223004, x223005, x223006 => if x6 < (x222006.length : Int) then (if 0 ≤ x6 then (if x6 < (x223006.length : Int) then (if (!(((rd_T87 x222006 x6).f0) == ((rd_T87 x223006 x6).f0)) || (!(((rd_T87 x222006 x6).f1) == ((rd_T87 x223006 x6).f1)))) = true then (some false) else (prebendref12_Same.l1 k (wrap64 (x6 + 1)) x222000 x222001 x222002 x222003 x222004 x222005 x222006 x223000 x223001 x223002 x223003 x223004 x223005 x223006)) else (none)) else (none)) else (some true)
end
def prebendref12_Same.f (k : Nat) (a0_0 : Int) (a0_1 : Int) (a0_2 : Int) (a0_3 : ByteArray) (a0_4 : ByteArray) (l0_5 : List Int) (l0_6 : List (S87)) (a1_0 : Int) (a1_1 : Int) (a1_2 : Int) (a1_3 : ByteArray) (a1_4 : ByteArray) (l1_5 : List Int) (l1_6 : List (S87)) : Option (Bool) := if a0_0 = a1_0 then (if a0_1 = a1_1 then (if a0_2 = a1_2 then (if a0_3.toList = a1_3.toList then (if a0_4.toList = a1_4.toList then (if (l0_5.length : Int) = (l1_5.length : Int) then (prebendref12_Same.j0 k ((l0_6.length : Int) != (l1_6.length : Int)) a0_0 a0_1 a0_2 a0_3 a0_4 l0_5 l0_6 a1_0 a1_1 a1_2 a1_3 a1_4 l1_5 l1_6) else (prebendref12_Same.j0 k true a0_0 a0_1 a0_2 a0_3 a0_4 l0_5 l0_6 a1_0 a1_1 a1_2 a1_3 a1_4 l1_5 l1_6)) else (prebendref12_Same.j0 k true a0_0 a0_1 a0_2 a0_3 a0_4 l0_5 l0_6 a1_0 a1_1 a1_2 a1_3 a1_4 l1_5 l1_6)) else (prebendref12_Same.j0 k true a0_0 a0_1 a0_2 a0_3 a0_4 l0_5 l0_6 a1_0 a1_1 a1_2 a1_3 a1_4 l1_5 l1_6)) else (prebendref12_Same.j0 k true a0_0 a0_1 a0_2 a0_3 a0_4 l0_5 l0_6 a1_0 a1_1 a1_2 a1_3 a1_4 l1_5 l1_6)) else (prebendref12_Same.j0 k true a0_0 a0_1 a0_2 a0_3 a0_4 l0_5 l0_6 a1_0 a1_1 a1_2 a1_3 a1_4 l1_5 l1_6)) else (prebendref12_Same.j0 k true a0_0 a0_1 a0_2 a0_3 a0_4 l0_5 l0_6 a1_0 a1_1 a1_2 a1_3 a1_4 l1_5 l1_6)
theorem prebendref12_Same.mono_l : ∀ k, (∀ y0 y1 y2 y3 y4 y5 y6 y7 y8 y9 y10 y11 y12 y13 y14, LeO (prebendref12_Same.j0 k y0 y1 y2 y3 y4 y5 y6 y7 y8 y9 y10 y11 y12 y13 y14) (prebendref12_Same.j0 (k + 1) y0 y1 y2 y3 y4 y5 y6 y7 y8 y9 y10 y11 y12 y13 y14)) ∧ (∀ y0 y1 y2 y3 y4 y5 y6 y7 y8 y9 y10 y11 y12 y13 y14, LeO (prebendref12_Same.l0 k y0 y1 y2 y3 y4 y5 y6 y7 y8 y9 y10 y11 y12 y13 y14) (prebendref12_Same.l0 (k + 1) y0 y1 y2 y3 y4 y5 y6 y7 y8 y9 y10 y11 y12 y13 y14)) ∧ (∀ y0 y1 y2 y3 y4 y5 y6 y7 y8 y9 y10 y11 y12 y13 y14, LeO (prebendref12_Same.l1 k y0 y1 y2 y3 y4 y5 y6 y7 y8 y9 y10 y11 y12 y13 y14) (prebendref12_Same.l1 (k + 1) y0 y1 y2 y3 y4 y5 y6 y7 y8 y9 y10 y11 y12 y13 y14))
  | 0 => ⟨fun _ _ _ _ _ _ _ _ _ _ _ _ _ _ _ r h => by simp [prebendref12_Same.j0] at h, fun _ _ _ _ _ _ _ _ _ _ _ _ _ _ _ r h => by simp [prebendref12_Same.l0] at h, fun _ _ _ _ _ _ _ _ _ _ _ _ _ _ _ r h => by simp [prebendref12_Same.l1] at h⟩
  | k + 1 => by
    obtain ⟨ih0, ih1, ih2⟩ := prebendref12_Same.mono_l k
    refine ⟨?_, ?_, ?_⟩
    · intro y0 y1 y2 y3 y4 y5 y6 y7 y8 y9 y10 y11 y12 y13 y14
      unfold prebendref12_Same.j0
      repeat' first
      | (with_reducible exact ih0 _ _ _ _ _ _ _ _ _ _ _ _ _ _ _)
      | (with_reducible exact ih1 _ _ _ _ _ _ _ _ _ _ _ _ _ _ _)
      | (with_reducible exact ih2 _ _ _ _ _ _ _ _ _ _ _ _ _ _ _)
      | (with_reducible exact LeO.refl _)
      | (with_reducible exact LeO.none _)
      | (with_reducible refine LeO.ite ?_ ?_)
      | (with_reducible refine LeO.bind ?_ (fun _ => ?_))
      | exact ih0 _ _ _ _ _ _ _ _ _ _ _ _ _ _ _
      | exact ih1 _ _ _ _ _ _ _ _ _ _ _ _ _ _ _
      | exact ih2 _ _ _ _ _ _ _ _ _ _ _ _ _ _ _
      | exact LeO.none _
      | refine LeO.ite ?_ ?_
      | refine LeO.bind ?_ (fun _ => ?_)
    · intro y0 y1 y2 y3 y4 y5 y6 y7 y8 y9 y10 y11 y12 y13 y14
      unfold prebendref12_Same.l0
      repeat' first
      | (with_reducible exact ih0 _ _ _ _ _ _ _ _ _ _ _ _ _ _ _)
      | (with_reducible exact ih1 _ _ _ _ _ _ _ _ _ _ _ _ _ _ _)
      | (with_reducible exact ih2 _ _ _ _ _ _ _ _ _ _ _ _ _ _ _)
      | (with_reducible exact LeO.refl _)
      | (with_reducible exact LeO.none _)
      | (with_reducible refine LeO.ite ?_ ?_)
      | (with_reducible refine LeO.bind ?_ (fun _ => ?_))
      | exact ih0 _ _ _ _ _ _ _ _ _ _ _ _ _ _ _
      | exact ih1 _ _ _ _ _ _ _ _ _ _ _ _ _ _ _
      | exact ih2 _ _ _ _ _ _ _ _ _ _ _ _ _ _ _
      | exact LeO.none _
      | refine LeO.ite ?_ ?_
      | refine LeO.bind ?_ (fun _ => ?_)
    · intro y0 y1 y2 y3 y4 y5 y6 y7 y8 y9 y10 y11 y12 y13 y14
      unfold prebendref12_Same.l1
      repeat' first
      | (with_reducible exact ih0 _ _ _ _ _ _ _ _ _ _ _ _ _ _ _)
      | (with_reducible exact ih1 _ _ _ _ _ _ _ _ _ _ _ _ _ _ _)
      | (with_reducible exact ih2 _ _ _ _ _ _ _ _ _ _ _ _ _ _ _)
      | (with_reducible exact LeO.refl _)
      | (with_reducible exact LeO.none _)
      | (with_reducible refine LeO.ite ?_ ?_)
      | (with_reducible refine LeO.bind ?_ (fun _ => ?_))
      | exact ih0 _ _ _ _ _ _ _ _ _ _ _ _ _ _ _
      | exact ih1 _ _ _ _ _ _ _ _ _ _ _ _ _ _ _
      | exact ih2 _ _ _ _ _ _ _ _ _ _ _ _ _ _ _
      | exact LeO.none _
      | refine LeO.ite ?_ ?_
      | refine LeO.bind ?_ (fun _ => ?_)
theorem prebendref12_Same.mono : ∀ a0 a1 a2 a3 a4 a5 a6 a7 a8 a9 a10 a11 a12 a13 k, LeO (prebendref12_Same.f k a0 a1 a2 a3 a4 a5 a6 a7 a8 a9 a10 a11 a12 a13) (prebendref12_Same.f (k + 1) a0 a1 a2 a3 a4 a5 a6 a7 a8 a9 a10 a11 a12 a13) := by
  intro a0 a1 a2 a3 a4 a5 a6 a7 a8 a9 a10 a11 a12 a13 k
  obtain ⟨ih0, ih1, ih2⟩ := prebendref12_Same.mono_l k
  unfold prebendref12_Same.f
  repeat' first
      | (with_reducible exact ih0 _ _ _ _ _ _ _ _ _ _ _ _ _ _ _)
      | (with_reducible exact ih1 _ _ _ _ _ _ _ _ _ _ _ _ _ _ _)
      | (with_reducible exact ih2 _ _ _ _ _ _ _ _ _ _ _ _ _ _ _)
      | (with_reducible exact LeO.refl _)
      | (with_reducible exact LeO.none _)
      | (with_reducible refine LeO.ite ?_ ?_)
      | (with_reducible refine LeO.bind ?_ (fun _ => ?_))
      | exact ih0 _ _ _ _ _ _ _ _ _ _ _ _ _ _ _
      | exact ih1 _ _ _ _ _ _ _ _ _ _ _ _ _ _ _
      | exact ih2 _ _ _ _ _ _ _ _ _ _ _ _ _ _ _
      | exact LeO.none _
      | refine LeO.ite ?_ ?_
      | refine LeO.bind ?_ (fun _ => ?_)
set_option maxHeartbeats 8000000 in
set_option maxRecDepth 100000 in
theorem prebendref12_Same.calls (k : Nat) (a0_0 : Int) (a0_1 : Int) (a0_2 : Int) (a0_3 : ByteArray) (a0_4 : ByteArray) (A0_5 : Option Addr) (c0_5 : Nat) (l0_5 : List Int) (A0_6 : Option Addr) (c0_6 : Nat) (l0_6 : List (S87)) (a1_0 : Int) (a1_1 : Int) (a1_2 : Int) (a1_3 : ByteArray) (a1_4 : ByteArray) (A1_5 : Option Addr) (c1_5 : Nat) (l1_5 : List Int) (A1_6 : Option Addr) (c1_6 : Nat) (l1_6 : List (S87)) (r : Bool) (w : World) (hr0_5 : Kd.C (Kd.int .i64) w A0_5 l0_5.length l0_5) (hc0_5 : l0_5.length ≤ c0_5) (hr0_6 : Kd.C k87 w A0_6 l0_6.length l0_6) (hc0_6 : l0_6.length ≤ c0_6) (hr1_5 : Kd.C (Kd.int .i64) w A1_5 l1_5.length l1_5) (hc1_5 : l1_5.length ≤ c1_5) (hr1_6 : Kd.C k87 w A1_6 l1_6.length l1_6) (hc1_6 : l1_6.length ≤ c1_6) (h : prebendref12_Same.f k a0_0 a0_1 a0_2 a0_3 a0_4 l0_5 l0_6 a1_0 a1_1 a1_2 a1_3 a1_4 l1_5 l1_6 = some r) :
    Calls Try.prog 32 #[.agg #[.int .i64 a0_0, .int .i64 a0_1, .int .i64 a0_2, .string a0_3, .string a0_4, .slice A0_5 l0_5.length c0_5, .slice A0_6 l0_6.length c0_6], .agg #[.int .i64 a1_0, .int .i64 a1_1, .int .i64 a1_2, .string a1_3, .string a1_4, .slice A1_5 l1_5.length c1_5, .slice A1_6 l1_6.length c1_6]] w fun e w' => e = .returned (.bool r) ∧ Below w.heap.size w w' := by
  have hu50 := Try.underlying50
  have hu87 := Try.underlying87
  have HR0_5 := Aside0.mk hr0_5
  have HC0_5 := Aside0.mk hc0_5
  clear hr0_5 hc0_5
  have HR0_6 := Aside0.mk hr0_6
  have HC0_6 := Aside0.mk hc0_6
  clear hr0_6 hc0_6
  have HR1_5 := Aside0.mk hr1_5
  have HC1_5 := Aside0.mk hc1_5
  clear hr1_5 hc1_5
  have HR1_6 := Aside0.mk hr1_6
  have HC1_6 := Aside0.mk hc1_6
  clear hr1_6 hc1_6
  have HB := Aside0.mk (Below.refl w.heap.size w)
  have H : (if a0_0 = a1_0 then (if a0_1 = a1_1 then (if a0_2 = a1_2 then (if a0_3.toList = a1_3.toList then (if a0_4.toList = a1_4.toList then (if (l0_5.length : Int) = (l1_5.length : Int) then (prebendref12_Same.j0 k ((l0_6.length : Int) != (l1_6.length : Int)) a0_0 a0_1 a0_2 a0_3 a0_4 l0_5 l0_6 a1_0 a1_1 a1_2 a1_3 a1_4 l1_5 l1_6) else (prebendref12_Same.j0 k true a0_0 a0_1 a0_2 a0_3 a0_4 l0_5 l0_6 a1_0 a1_1 a1_2 a1_3 a1_4 l1_5 l1_6)) else (prebendref12_Same.j0 k true a0_0 a0_1 a0_2 a0_3 a0_4 l0_5 l0_6 a1_0 a1_1 a1_2 a1_3 a1_4 l1_5 l1_6)) else (prebendref12_Same.j0 k true a0_0 a0_1 a0_2 a0_3 a0_4 l0_5 l0_6 a1_0 a1_1 a1_2 a1_3 a1_4 l1_5 l1_6)) else (prebendref12_Same.j0 k true a0_0 a0_1 a0_2 a0_3 a0_4 l0_5 l0_6 a1_0 a1_1 a1_2 a1_3 a1_4 l1_5 l1_6)) else (prebendref12_Same.j0 k true a0_0 a0_1 a0_2 a0_3 a0_4 l0_5 l0_6 a1_0 a1_1 a1_2 a1_3 a1_4 l1_5 l1_6)) else (prebendref12_Same.j0 k true a0_0 a0_1 a0_2 a0_3 a0_4 l0_5 l0_6 a1_0 a1_1 a1_2 a1_3 a1_4 l1_5 l1_6)) = some r := h
  clear h
  have HC3 := Aside0.mk H
  clear H
  go_enter Try.func32, Try.ntmps32
  go_upto_region 1 with (first | ((with_reducible refine gate_dst (N := 2) rfl ?_); (try (refine gate_guard (by rfl) ?_; dsimp only)); refine box_event ?hg (N := 2) ?hd (cs := #[.int .i64 a0_0, .int .i64 a0_1, .int .i64 a0_2, .string a0_3, .string a0_4, .slice A0_5 l0_5.length c0_5, .slice A0_6 l0_6.length c0_6]) (t := 50) ?hr ?_; (case hd => rfl); (case hg => rfl); (case hr => first | (go_simp; done) | (go_simp; rfl)); intro gb221 hg w4 hbox hb; have n0_ := Aside0.mk (below_step (by repeat (first | (with_reducible first | exact HB.out | apply below_alloc | apply pw_below_drewN | apply below_drew1) | exact HB.out)) hb); have n1_ := Aside0.mk (hbox); have n2_ := Aside0.mk ((by rw [hg]; exact (below_size (by repeat (first | (with_reducible first | exact HB.out | apply below_alloc | apply pw_below_drewN | apply below_drew1) | exact HB.out))) : w.heap.size ≤ gb221)); have n3_ := Aside0.mk ((by rw [hg]; exact (below_size (by repeat (first | (with_reducible first | exact HB.out | apply below_alloc | apply pw_below_drewN | apply below_drew1) | exact HB.out))) : w.heap.size ≤ gb221)); clear HB; have HB := n0_; have BK221 := n1_; have GW221 := n2_; have GE221 := n3_; clear n0_ n1_ n2_ n3_; clear hb hbox hg) | ((with_reducible refine gate_dst (N := 3) rfl ?_); (try (refine gate_guard (by rfl) ?_; dsimp only)); refine box_event ?hg (N := 3) ?hd (cs := #[.int .i64 a1_0, .int .i64 a1_1, .int .i64 a1_2, .string a1_3, .string a1_4, .slice A1_5 l1_5.length c1_5, .slice A1_6 l1_6.length c1_6]) (t := 50) ?hr ?_; (case hd => rfl); (case hg => rfl); (case hr => first | (go_simp; done) | (go_simp; rfl)); intro gb222 hg w5 hbox hb; have n0_ := Aside0.mk (blk_below (g := gb221) (o := .cells #[.int .i64 a0_0, .int .i64 a0_1, .int .i64 a0_2, .string a0_3, .string a0_4, .slice A0_5 l0_5.length c0_5, .slice A0_6 l0_6.length c0_6] 50 (0, 0)) (by (with_reducible repeat (first | refine blk_drewN ?_ _ | refine blk_drew ?_ | refine blk_alloc ?_ _)); exact BK221.out) hb); have n1_ := Aside0.mk (below_step (by repeat (first | (with_reducible first | exact HB.out | apply below_alloc | apply pw_below_drewN | apply below_drew1 | refine below_set ?_ GE221.out) | exact HB.out)) hb); have n2_ := Aside0.mk (hbox); have n3_ := Aside0.mk ((by rw [hg]; exact (below_size (by repeat (first | (with_reducible first | exact HB.out | apply below_alloc | apply pw_below_drewN | apply below_drew1 | refine below_set ?_ GE221.out) | exact HB.out))) : w.heap.size ≤ gb222)); have n4_ := Aside0.mk ((by rw [hg]; exact (below_size (by repeat (first | (with_reducible first | exact HB.out | apply below_alloc | apply pw_below_drewN | apply below_drew1 | refine below_set ?_ GE221.out) | exact HB.out))) : w.heap.size ≤ gb222)); have n5_ := Aside0.mk ((by rw [hg]; exact Nat.ne_of_lt (blk_lt (g := gb221) (o := .cells #[.int .i64 a0_0, .int .i64 a0_1, .int .i64 a0_2, .string a0_3, .string a0_4, .slice A0_5 l0_5.length c0_5, .slice A0_6 l0_6.length c0_6] 50 (0, 0)) (by (with_reducible repeat (first | refine blk_drewN ?_ _ | refine blk_drew ?_ | refine blk_alloc ?_ _)); exact BK221.out)) : gb221 ≠ gb222)); have n6_ := Aside0.mk ((by rw [hg]; exact Nat.ne_of_gt (blk_lt (g := gb221) (o := .cells #[.int .i64 a0_0, .int .i64 a0_1, .int .i64 a0_2, .string a0_3, .string a0_4, .slice A0_5 l0_5.length c0_5, .slice A0_6 l0_6.length c0_6] 50 (0, 0)) (by (with_reducible repeat (first | refine blk_drewN ?_ _ | refine blk_drew ?_ | refine blk_alloc ?_ _)); exact BK221.out)) : gb222 ≠ gb221)); clear BK221; clear HB; have BK221 := n0_; have HB := n1_; have BK222 := n2_; have GW222 := n3_; have GE222 := n4_; have NB221_222 := n5_; have NB222_221 := n6_; clear n0_ n1_ n2_ n3_ n4_ n5_ n6_; clear hb hbox hg))
  repeat (go_quiet (first | ((with_reducible refine gate_dst (N := 2) rfl ?_); (try (refine gate_guard (by rfl) ?_; dsimp only)); refine box_event ?hg (N := 2) ?hd (cs := #[.int .i64 a0_0, .int .i64 a0_1, .int .i64 a0_2, .string a0_3, .string a0_4, .slice A0_5 l0_5.length c0_5, .slice A0_6 l0_6.length c0_6]) (t := 50) ?hr ?_; (case hd => rfl); (case hg => rfl); (case hr => first | (go_simp; done) | (go_simp; rfl)); intro gb221 hg w4 hbox hb; have n0_ := Aside0.mk (below_step (by repeat (first | (with_reducible first | exact HB.out | apply below_alloc | apply pw_below_drewN | apply below_drew1) | exact HB.out)) hb); have n1_ := Aside0.mk (hbox); have n2_ := Aside0.mk ((by rw [hg]; exact (below_size (by repeat (first | (with_reducible first | exact HB.out | apply below_alloc | apply pw_below_drewN | apply below_drew1) | exact HB.out))) : w.heap.size ≤ gb221)); have n3_ := Aside0.mk ((by rw [hg]; exact (below_size (by repeat (first | (with_reducible first | exact HB.out | apply below_alloc | apply pw_below_drewN | apply below_drew1) | exact HB.out))) : w.heap.size ≤ gb221)); clear HB; have HB := n0_; have BK221 := n1_; have GW221 := n2_; have GE221 := n3_; clear n0_ n1_ n2_ n3_; clear hb hbox hg) | ((with_reducible refine gate_dst (N := 3) rfl ?_); (try (refine gate_guard (by rfl) ?_; dsimp only)); refine box_event ?hg (N := 3) ?hd (cs := #[.int .i64 a1_0, .int .i64 a1_1, .int .i64 a1_2, .string a1_3, .string a1_4, .slice A1_5 l1_5.length c1_5, .slice A1_6 l1_6.length c1_6]) (t := 50) ?hr ?_; (case hd => rfl); (case hg => rfl); (case hr => first | (go_simp; done) | (go_simp; rfl)); intro gb222 hg w5 hbox hb; have n0_ := Aside0.mk (blk_below (g := gb221) (o := .cells #[.int .i64 a0_0, .int .i64 a0_1, .int .i64 a0_2, .string a0_3, .string a0_4, .slice A0_5 l0_5.length c0_5, .slice A0_6 l0_6.length c0_6] 50 (0, 0)) (by (with_reducible repeat (first | refine blk_drewN ?_ _ | refine blk_drew ?_ | refine blk_alloc ?_ _)); exact BK221.out) hb); have n1_ := Aside0.mk (below_step (by repeat (first | (with_reducible first | exact HB.out | apply below_alloc | apply pw_below_drewN | apply below_drew1 | refine below_set ?_ GE221.out) | exact HB.out)) hb); have n2_ := Aside0.mk (hbox); have n3_ := Aside0.mk ((by rw [hg]; exact (below_size (by repeat (first | (with_reducible first | exact HB.out | apply below_alloc | apply pw_below_drewN | apply below_drew1 | refine below_set ?_ GE221.out) | exact HB.out))) : w.heap.size ≤ gb222)); have n4_ := Aside0.mk ((by rw [hg]; exact (below_size (by repeat (first | (with_reducible first | exact HB.out | apply below_alloc | apply pw_below_drewN | apply below_drew1 | refine below_set ?_ GE221.out) | exact HB.out))) : w.heap.size ≤ gb222)); have n5_ := Aside0.mk ((by rw [hg]; exact Nat.ne_of_lt (blk_lt (g := gb221) (o := .cells #[.int .i64 a0_0, .int .i64 a0_1, .int .i64 a0_2, .string a0_3, .string a0_4, .slice A0_5 l0_5.length c0_5, .slice A0_6 l0_6.length c0_6] 50 (0, 0)) (by (with_reducible repeat (first | refine blk_drewN ?_ _ | refine blk_drew ?_ | refine blk_alloc ?_ _)); exact BK221.out)) : gb221 ≠ gb222)); have n6_ := Aside0.mk ((by rw [hg]; exact Nat.ne_of_gt (blk_lt (g := gb221) (o := .cells #[.int .i64 a0_0, .int .i64 a0_1, .int .i64 a0_2, .string a0_3, .string a0_4, .slice A0_5 l0_5.length c0_5, .slice A0_6 l0_6.length c0_6] 50 (0, 0)) (by (with_reducible repeat (first | refine blk_drewN ?_ _ | refine blk_drew ?_ | refine blk_alloc ?_ _)); exact BK221.out)) : gb222 ≠ gb221)); clear BK221; clear HB; have BK221 := n0_; have HB := n1_; have BK222 := n2_; have GW222 := n3_; have GE222 := n4_; have NB221_222 := n5_; have NB222_221 := n6_; clear n0_ n1_ n2_ n3_ n4_ n5_ n6_; clear hb hbox hg)); go_upto_region 1 with (first | ((with_reducible refine gate_dst (N := 2) rfl ?_); (try (refine gate_guard (by rfl) ?_; dsimp only)); refine box_event ?hg (N := 2) ?hd (cs := #[.int .i64 a0_0, .int .i64 a0_1, .int .i64 a0_2, .string a0_3, .string a0_4, .slice A0_5 l0_5.length c0_5, .slice A0_6 l0_6.length c0_6]) (t := 50) ?hr ?_; (case hd => rfl); (case hg => rfl); (case hr => first | (go_simp; done) | (go_simp; rfl)); intro gb221 hg w4 hbox hb; have n0_ := Aside0.mk (below_step (by repeat (first | (with_reducible first | exact HB.out | apply below_alloc | apply pw_below_drewN | apply below_drew1) | exact HB.out)) hb); have n1_ := Aside0.mk (hbox); have n2_ := Aside0.mk ((by rw [hg]; exact (below_size (by repeat (first | (with_reducible first | exact HB.out | apply below_alloc | apply pw_below_drewN | apply below_drew1) | exact HB.out))) : w.heap.size ≤ gb221)); have n3_ := Aside0.mk ((by rw [hg]; exact (below_size (by repeat (first | (with_reducible first | exact HB.out | apply below_alloc | apply pw_below_drewN | apply below_drew1) | exact HB.out))) : w.heap.size ≤ gb221)); clear HB; have HB := n0_; have BK221 := n1_; have GW221 := n2_; have GE221 := n3_; clear n0_ n1_ n2_ n3_; clear hb hbox hg) | ((with_reducible refine gate_dst (N := 3) rfl ?_); (try (refine gate_guard (by rfl) ?_; dsimp only)); refine box_event ?hg (N := 3) ?hd (cs := #[.int .i64 a1_0, .int .i64 a1_1, .int .i64 a1_2, .string a1_3, .string a1_4, .slice A1_5 l1_5.length c1_5, .slice A1_6 l1_6.length c1_6]) (t := 50) ?hr ?_; (case hd => rfl); (case hg => rfl); (case hr => first | (go_simp; done) | (go_simp; rfl)); intro gb222 hg w5 hbox hb; have n0_ := Aside0.mk (blk_below (g := gb221) (o := .cells #[.int .i64 a0_0, .int .i64 a0_1, .int .i64 a0_2, .string a0_3, .string a0_4, .slice A0_5 l0_5.length c0_5, .slice A0_6 l0_6.length c0_6] 50 (0, 0)) (by (with_reducible repeat (first | refine blk_drewN ?_ _ | refine blk_drew ?_ | refine blk_alloc ?_ _)); exact BK221.out) hb); have n1_ := Aside0.mk (below_step (by repeat (first | (with_reducible first | exact HB.out | apply below_alloc | apply pw_below_drewN | apply below_drew1 | refine below_set ?_ GE221.out) | exact HB.out)) hb); have n2_ := Aside0.mk (hbox); have n3_ := Aside0.mk ((by rw [hg]; exact (below_size (by repeat (first | (with_reducible first | exact HB.out | apply below_alloc | apply pw_below_drewN | apply below_drew1 | refine below_set ?_ GE221.out) | exact HB.out))) : w.heap.size ≤ gb222)); have n4_ := Aside0.mk ((by rw [hg]; exact (below_size (by repeat (first | (with_reducible first | exact HB.out | apply below_alloc | apply pw_below_drewN | apply below_drew1 | refine below_set ?_ GE221.out) | exact HB.out))) : w.heap.size ≤ gb222)); have n5_ := Aside0.mk ((by rw [hg]; exact Nat.ne_of_lt (blk_lt (g := gb221) (o := .cells #[.int .i64 a0_0, .int .i64 a0_1, .int .i64 a0_2, .string a0_3, .string a0_4, .slice A0_5 l0_5.length c0_5, .slice A0_6 l0_6.length c0_6] 50 (0, 0)) (by (with_reducible repeat (first | refine blk_drewN ?_ _ | refine blk_drew ?_ | refine blk_alloc ?_ _)); exact BK221.out)) : gb221 ≠ gb222)); have n6_ := Aside0.mk ((by rw [hg]; exact Nat.ne_of_gt (blk_lt (g := gb221) (o := .cells #[.int .i64 a0_0, .int .i64 a0_1, .int .i64 a0_2, .string a0_3, .string a0_4, .slice A0_5 l0_5.length c0_5, .slice A0_6 l0_6.length c0_6] 50 (0, 0)) (by (with_reducible repeat (first | refine blk_drewN ?_ _ | refine blk_drew ?_ | refine blk_alloc ?_ _)); exact BK221.out)) : gb222 ≠ gb221)); clear BK221; clear HB; have BK221 := n0_; have HB := n1_; have BK222 := n2_; have GW222 := n3_; have GE222 := n4_; have NB221_222 := n5_; have NB222_221 := n6_; clear n0_ n1_ n2_ n3_ n4_ n5_ n6_; clear hb hbox hg)))
  (try simp only [Act.put, List.setIfInBounds_toArray, List.set_cons_zero, List.set_cons_succ])
  go_cut [57] (fun v57 wc => ∃ (kq : Nat) (x57_2 : Bool), v57 = .bool x57_2 ∧ Aside0 (prebendref12_Same.j0 kq x57_2 a0_0 a0_1 a0_2 a0_3 a0_4 l0_5 l0_6 a1_0 a1_1 a1_2 a1_3 a1_4 l1_5 l1_6 = some r) ∧ Aside0 (kq ≤ k) ∧ Aside0 (wc.heap[gb221]? = some (.cells #[.int .i64 a0_0, .int .i64 a0_1, .int .i64 a0_2, .string a0_3, .string a0_4, (.slice A0_5 l0_5.length c0_5), (.slice A0_6 l0_6.length c0_6)] 50 (0, 0))) ∧ Aside0 (wc.heap[gb222]? = some (.cells #[.int .i64 a1_0, .int .i64 a1_1, .int .i64 a1_2, .string a1_3, .string a1_4, (.slice A1_5 l1_5.length c1_5), (.slice A1_6 l1_6.length c1_6)] 50 (0, 0))) ∧ Aside0 (Below w.heap.size w wc))
  case first =>
    have H := HC3.out
    clear HC3
    by_cases c6 : a0_0 = a1_0
    · rw [if_pos c6] at H
      have c6b0 : (a0_0 == a1_0) = true := beq_iff_eq.mpr c6
      have c6b1 : (a0_0 != a1_0) = false := bne_eq_false_iff_eq.mpr c6
      clear c6
      (first | rw [c6b0] | (simp only [i64_w, i32_w]; rw [c6b0]) | skip)
      by_cases c7 : a0_1 = a1_1
      · rw [if_pos c7] at H
        have c7b0 : (a0_1 == a1_1) = true := beq_iff_eq.mpr c7
        have c7b1 : (a0_1 != a1_1) = false := bne_eq_false_iff_eq.mpr c7
        clear c7
        by_cases c8 : a0_2 = a1_2
        · rw [if_pos c8] at H
          have c8b0 : (a0_2 == a1_2) = true := beq_iff_eq.mpr c8
          have c8b1 : (a0_2 != a1_2) = false := bne_eq_false_iff_eq.mpr c8
          clear c8
          by_cases c9 : a0_3.toList = a1_3.toList
          · rw [if_pos c9] at H
            have c9b0 : (a0_3.toList == a1_3.toList) = true := beq_iff_eq.mpr c9
            have c9b1 : (a0_3.toList != a1_3.toList) = false := bne_eq_false_iff_eq.mpr c9
            clear c9
            by_cases c10 : a0_4.toList = a1_4.toList
            · rw [if_pos c10] at H
              have c10b0 : (a0_4.toList == a1_4.toList) = true := beq_iff_eq.mpr c10
              have c10b1 : (a0_4.toList != a1_4.toList) = false := bne_eq_false_iff_eq.mpr c10
              clear c10
              by_cases c11 : (l0_5.length : Int) = (l1_5.length : Int)
              · rw [if_pos c11] at H
                have c11b0 : ((l0_5.length : Int) == (l1_5.length : Int)) = true := beq_iff_eq.mpr c11
                have c11b1 : ((l0_5.length : Int) != (l1_5.length : Int)) = false := bne_eq_false_iff_eq.mpr c11
                have c11b2 : (l0_5.length == l1_5.length) = true := by first | simpa using c11 | (simp at c11 ⊢; omega)
                clear c11
                have H' := Aside0.mk H
                clear H
                have hnb12 := NB221_222.out
                have hnc12 := NB222_221.out
                have hcz13_0 : w5.cell? ⟨gb221, 0, none⟩ = some (.int .i64 a0_0) := (blk_cell BK221.out 0).trans rfl
                have hcz13_1 : w5.cell? ⟨gb221, 1, none⟩ = some (.int .i64 a0_1) := (blk_cell BK221.out 1).trans rfl
                have hcz13_2 : w5.cell? ⟨gb221, 2, none⟩ = some (.int .i64 a0_2) := (blk_cell BK221.out 2).trans rfl
                have hcz13_3 : w5.cell? ⟨gb221, 3, none⟩ = some (.string a0_3) := (blk_cell BK221.out 3).trans rfl
                have hcz13_4 : w5.cell? ⟨gb221, 4, none⟩ = some (.string a0_4) := (blk_cell BK221.out 4).trans rfl
                have hcz13_5 : w5.cell? ⟨gb221, 5, none⟩ = some (.slice A0_5 l0_5.length c0_5) := (blk_cell BK221.out 5).trans rfl
                have hcz13_6 : w5.cell? ⟨gb221, 6, none⟩ = some (.slice A0_6 l0_6.length c0_6) := (blk_cell BK221.out 6).trans rfl
                have hfz13_0 := blk_frozen BK221.out 0
                have hfz13_1 := blk_frozen BK221.out 1
                have hfz13_2 := blk_frozen BK221.out 2
                have hfz13_3 := blk_frozen BK221.out 3
                have hfz13_4 := blk_frozen BK221.out 4
                have hfz13_5 := blk_frozen BK221.out 5
                have hfz13_6 := blk_frozen BK221.out 6
                have hcz14_0 : w5.cell? ⟨gb222, 0, none⟩ = some (.int .i64 a1_0) := (blk_cell BK222.out 0).trans rfl
                have hcz14_1 : w5.cell? ⟨gb222, 1, none⟩ = some (.int .i64 a1_1) := (blk_cell BK222.out 1).trans rfl
                have hcz14_2 : w5.cell? ⟨gb222, 2, none⟩ = some (.int .i64 a1_2) := (blk_cell BK222.out 2).trans rfl
                have hcz14_3 : w5.cell? ⟨gb222, 3, none⟩ = some (.string a1_3) := (blk_cell BK222.out 3).trans rfl
                have hcz14_4 : w5.cell? ⟨gb222, 4, none⟩ = some (.string a1_4) := (blk_cell BK222.out 4).trans rfl
                have hcz14_5 : w5.cell? ⟨gb222, 5, none⟩ = some (.slice A1_5 l1_5.length c1_5) := (blk_cell BK222.out 5).trans rfl
                have hcz14_6 : w5.cell? ⟨gb222, 6, none⟩ = some (.slice A1_6 l1_6.length c1_6) := (blk_cell BK222.out 6).trans rfl
                have hfz14_0 := blk_frozen BK222.out 0
                have hfz14_1 := blk_frozen BK222.out 1
                have hfz14_2 := blk_frozen BK222.out 2
                have hfz14_3 := blk_frozen BK222.out 3
                have hfz14_4 := blk_frozen BK222.out 4
                have hfz14_5 := blk_frozen BK222.out 5
                have hfz14_6 := blk_frozen BK222.out 6
                go_wp2
                repeat (go_quiet (fail); try go_wp2)
                go_meet
                case rel => exact ⟨_, (((l0_6.length : Int) != (l1_6.length : Int))), (by first | rfl | (simp; done) | (simp [*]; done)), H', ⟨by first | omega | exact Nat.le_refl _⟩, ⟨by (with_reducible repeat (first | refine blk_drewN ?_ _ | refine blk_drew ?_ | refine blk_alloc ?_ _)); exact BK221.out⟩, ⟨by (with_reducible repeat (first | refine blk_drewN ?_ _ | refine blk_drew ?_ | refine blk_alloc ?_ _)); exact BK222.out⟩, ⟨by repeat (first | (with_reducible first | exact HB.out | apply below_alloc | apply pw_below_drewN | apply below_drew1 | refine below_set ?_ GE221.out | refine below_set ?_ GE222.out) | exact HB.out)⟩⟩
              · rw [if_neg c11] at H
                have c11b0 : ((l0_5.length : Int) == (l1_5.length : Int)) = false := beq_eq_false_iff_ne.mpr c11
                have c11b1 : ((l0_5.length : Int) != (l1_5.length : Int)) = true := bne_iff_ne.mpr c11
                have c11b2 : (l0_5.length == l1_5.length) = false := by first | simpa using c11 | (simp at c11 ⊢; omega)
                have H' := Aside0.mk H
                clear H
                have hnb15 := NB221_222.out
                have hnc15 := NB222_221.out
                have hcz16_0 : w5.cell? ⟨gb221, 0, none⟩ = some (.int .i64 a0_0) := (blk_cell BK221.out 0).trans rfl
                have hcz16_1 : w5.cell? ⟨gb221, 1, none⟩ = some (.int .i64 a0_1) := (blk_cell BK221.out 1).trans rfl
                have hcz16_2 : w5.cell? ⟨gb221, 2, none⟩ = some (.int .i64 a0_2) := (blk_cell BK221.out 2).trans rfl
                have hcz16_3 : w5.cell? ⟨gb221, 3, none⟩ = some (.string a0_3) := (blk_cell BK221.out 3).trans rfl
                have hcz16_4 : w5.cell? ⟨gb221, 4, none⟩ = some (.string a0_4) := (blk_cell BK221.out 4).trans rfl
                have hcz16_5 : w5.cell? ⟨gb221, 5, none⟩ = some (.slice A0_5 l0_5.length c0_5) := (blk_cell BK221.out 5).trans rfl
                have hcz16_6 : w5.cell? ⟨gb221, 6, none⟩ = some (.slice A0_6 l0_6.length c0_6) := (blk_cell BK221.out 6).trans rfl
                have hfz16_0 := blk_frozen BK221.out 0
                have hfz16_1 := blk_frozen BK221.out 1
                have hfz16_2 := blk_frozen BK221.out 2
                have hfz16_3 := blk_frozen BK221.out 3
                have hfz16_4 := blk_frozen BK221.out 4
                have hfz16_5 := blk_frozen BK221.out 5
                have hfz16_6 := blk_frozen BK221.out 6
                have hcz17_0 : w5.cell? ⟨gb222, 0, none⟩ = some (.int .i64 a1_0) := (blk_cell BK222.out 0).trans rfl
                have hcz17_1 : w5.cell? ⟨gb222, 1, none⟩ = some (.int .i64 a1_1) := (blk_cell BK222.out 1).trans rfl
                have hcz17_2 : w5.cell? ⟨gb222, 2, none⟩ = some (.int .i64 a1_2) := (blk_cell BK222.out 2).trans rfl
                have hcz17_3 : w5.cell? ⟨gb222, 3, none⟩ = some (.string a1_3) := (blk_cell BK222.out 3).trans rfl
                have hcz17_4 : w5.cell? ⟨gb222, 4, none⟩ = some (.string a1_4) := (blk_cell BK222.out 4).trans rfl
                have hcz17_5 : w5.cell? ⟨gb222, 5, none⟩ = some (.slice A1_5 l1_5.length c1_5) := (blk_cell BK222.out 5).trans rfl
                have hcz17_6 : w5.cell? ⟨gb222, 6, none⟩ = some (.slice A1_6 l1_6.length c1_6) := (blk_cell BK222.out 6).trans rfl
                have hfz17_0 := blk_frozen BK222.out 0
                have hfz17_1 := blk_frozen BK222.out 1
                have hfz17_2 := blk_frozen BK222.out 2
                have hfz17_3 := blk_frozen BK222.out 3
                have hfz17_4 := blk_frozen BK222.out 4
                have hfz17_5 := blk_frozen BK222.out 5
                have hfz17_6 := blk_frozen BK222.out 6
                go_wp2
                repeat (go_quiet (fail); try go_wp2)
                go_meet
                case rel => exact ⟨_, (true), (by first | rfl | (simp; done) | (simp [*]; done)), H', ⟨by first | omega | exact Nat.le_refl _⟩, ⟨by (with_reducible repeat (first | refine blk_drewN ?_ _ | refine blk_drew ?_ | refine blk_alloc ?_ _)); exact BK221.out⟩, ⟨by (with_reducible repeat (first | refine blk_drewN ?_ _ | refine blk_drew ?_ | refine blk_alloc ?_ _)); exact BK222.out⟩, ⟨by repeat (first | (with_reducible first | exact HB.out | apply below_alloc | apply pw_below_drewN | apply below_drew1 | refine below_set ?_ GE221.out | refine below_set ?_ GE222.out) | exact HB.out)⟩⟩
            · rw [if_neg c10] at H
              have c10b0 : (a0_4.toList == a1_4.toList) = false := beq_eq_false_iff_ne.mpr c10
              have c10b1 : (a0_4.toList != a1_4.toList) = true := bne_iff_ne.mpr c10
              have H' := Aside0.mk H
              clear H
              have hnb18 := NB221_222.out
              have hnc18 := NB222_221.out
              have hcz19_0 : w5.cell? ⟨gb221, 0, none⟩ = some (.int .i64 a0_0) := (blk_cell BK221.out 0).trans rfl
              have hcz19_1 : w5.cell? ⟨gb221, 1, none⟩ = some (.int .i64 a0_1) := (blk_cell BK221.out 1).trans rfl
              have hcz19_2 : w5.cell? ⟨gb221, 2, none⟩ = some (.int .i64 a0_2) := (blk_cell BK221.out 2).trans rfl
              have hcz19_3 : w5.cell? ⟨gb221, 3, none⟩ = some (.string a0_3) := (blk_cell BK221.out 3).trans rfl
              have hcz19_4 : w5.cell? ⟨gb221, 4, none⟩ = some (.string a0_4) := (blk_cell BK221.out 4).trans rfl
              have hcz19_5 : w5.cell? ⟨gb221, 5, none⟩ = some (.slice A0_5 l0_5.length c0_5) := (blk_cell BK221.out 5).trans rfl
              have hcz19_6 : w5.cell? ⟨gb221, 6, none⟩ = some (.slice A0_6 l0_6.length c0_6) := (blk_cell BK221.out 6).trans rfl
              have hfz19_0 := blk_frozen BK221.out 0
              have hfz19_1 := blk_frozen BK221.out 1
              have hfz19_2 := blk_frozen BK221.out 2
              have hfz19_3 := blk_frozen BK221.out 3
              have hfz19_4 := blk_frozen BK221.out 4
              have hfz19_5 := blk_frozen BK221.out 5
              have hfz19_6 := blk_frozen BK221.out 6
              have hcz20_0 : w5.cell? ⟨gb222, 0, none⟩ = some (.int .i64 a1_0) := (blk_cell BK222.out 0).trans rfl
              have hcz20_1 : w5.cell? ⟨gb222, 1, none⟩ = some (.int .i64 a1_1) := (blk_cell BK222.out 1).trans rfl
              have hcz20_2 : w5.cell? ⟨gb222, 2, none⟩ = some (.int .i64 a1_2) := (blk_cell BK222.out 2).trans rfl
              have hcz20_3 : w5.cell? ⟨gb222, 3, none⟩ = some (.string a1_3) := (blk_cell BK222.out 3).trans rfl
              have hcz20_4 : w5.cell? ⟨gb222, 4, none⟩ = some (.string a1_4) := (blk_cell BK222.out 4).trans rfl
              have hcz20_5 : w5.cell? ⟨gb222, 5, none⟩ = some (.slice A1_5 l1_5.length c1_5) := (blk_cell BK222.out 5).trans rfl
              have hcz20_6 : w5.cell? ⟨gb222, 6, none⟩ = some (.slice A1_6 l1_6.length c1_6) := (blk_cell BK222.out 6).trans rfl
              have hfz20_0 := blk_frozen BK222.out 0
              have hfz20_1 := blk_frozen BK222.out 1
              have hfz20_2 := blk_frozen BK222.out 2
              have hfz20_3 := blk_frozen BK222.out 3
              have hfz20_4 := blk_frozen BK222.out 4
              have hfz20_5 := blk_frozen BK222.out 5
              have hfz20_6 := blk_frozen BK222.out 6
              go_wp2
              repeat (go_quiet (fail); try go_wp2)
              go_meet
              case rel => exact ⟨_, (true), (by first | rfl | (simp; done) | (simp [*]; done)), H', ⟨by first | omega | exact Nat.le_refl _⟩, ⟨by (with_reducible repeat (first | refine blk_drewN ?_ _ | refine blk_drew ?_ | refine blk_alloc ?_ _)); exact BK221.out⟩, ⟨by (with_reducible repeat (first | refine blk_drewN ?_ _ | refine blk_drew ?_ | refine blk_alloc ?_ _)); exact BK222.out⟩, ⟨by repeat (first | (with_reducible first | exact HB.out | apply below_alloc | apply pw_below_drewN | apply below_drew1 | refine below_set ?_ GE221.out | refine below_set ?_ GE222.out) | exact HB.out)⟩⟩
          · rw [if_neg c9] at H
            have c9b0 : (a0_3.toList == a1_3.toList) = false := beq_eq_false_iff_ne.mpr c9
            have c9b1 : (a0_3.toList != a1_3.toList) = true := bne_iff_ne.mpr c9
            have H' := Aside0.mk H
            clear H
            have hnb21 := NB221_222.out
            have hnc21 := NB222_221.out
            have hcz22_0 : w5.cell? ⟨gb221, 0, none⟩ = some (.int .i64 a0_0) := (blk_cell BK221.out 0).trans rfl
            have hcz22_1 : w5.cell? ⟨gb221, 1, none⟩ = some (.int .i64 a0_1) := (blk_cell BK221.out 1).trans rfl
            have hcz22_2 : w5.cell? ⟨gb221, 2, none⟩ = some (.int .i64 a0_2) := (blk_cell BK221.out 2).trans rfl
            have hcz22_3 : w5.cell? ⟨gb221, 3, none⟩ = some (.string a0_3) := (blk_cell BK221.out 3).trans rfl
            have hcz22_4 : w5.cell? ⟨gb221, 4, none⟩ = some (.string a0_4) := (blk_cell BK221.out 4).trans rfl
            have hcz22_5 : w5.cell? ⟨gb221, 5, none⟩ = some (.slice A0_5 l0_5.length c0_5) := (blk_cell BK221.out 5).trans rfl
            have hcz22_6 : w5.cell? ⟨gb221, 6, none⟩ = some (.slice A0_6 l0_6.length c0_6) := (blk_cell BK221.out 6).trans rfl
            have hfz22_0 := blk_frozen BK221.out 0
            have hfz22_1 := blk_frozen BK221.out 1
            have hfz22_2 := blk_frozen BK221.out 2
            have hfz22_3 := blk_frozen BK221.out 3
            have hfz22_4 := blk_frozen BK221.out 4
            have hfz22_5 := blk_frozen BK221.out 5
            have hfz22_6 := blk_frozen BK221.out 6
            have hcz23_0 : w5.cell? ⟨gb222, 0, none⟩ = some (.int .i64 a1_0) := (blk_cell BK222.out 0).trans rfl
            have hcz23_1 : w5.cell? ⟨gb222, 1, none⟩ = some (.int .i64 a1_1) := (blk_cell BK222.out 1).trans rfl
            have hcz23_2 : w5.cell? ⟨gb222, 2, none⟩ = some (.int .i64 a1_2) := (blk_cell BK222.out 2).trans rfl
            have hcz23_3 : w5.cell? ⟨gb222, 3, none⟩ = some (.string a1_3) := (blk_cell BK222.out 3).trans rfl
            have hcz23_4 : w5.cell? ⟨gb222, 4, none⟩ = some (.string a1_4) := (blk_cell BK222.out 4).trans rfl
            have hcz23_5 : w5.cell? ⟨gb222, 5, none⟩ = some (.slice A1_5 l1_5.length c1_5) := (blk_cell BK222.out 5).trans rfl
            have hcz23_6 : w5.cell? ⟨gb222, 6, none⟩ = some (.slice A1_6 l1_6.length c1_6) := (blk_cell BK222.out 6).trans rfl
            have hfz23_0 := blk_frozen BK222.out 0
            have hfz23_1 := blk_frozen BK222.out 1
            have hfz23_2 := blk_frozen BK222.out 2
            have hfz23_3 := blk_frozen BK222.out 3
            have hfz23_4 := blk_frozen BK222.out 4
            have hfz23_5 := blk_frozen BK222.out 5
            have hfz23_6 := blk_frozen BK222.out 6
            go_wp2
            repeat (go_quiet (fail); try go_wp2)
            go_meet
            case rel => exact ⟨_, (true), (by first | rfl | (simp; done) | (simp [*]; done)), H', ⟨by first | omega | exact Nat.le_refl _⟩, ⟨by (with_reducible repeat (first | refine blk_drewN ?_ _ | refine blk_drew ?_ | refine blk_alloc ?_ _)); exact BK221.out⟩, ⟨by (with_reducible repeat (first | refine blk_drewN ?_ _ | refine blk_drew ?_ | refine blk_alloc ?_ _)); exact BK222.out⟩, ⟨by repeat (first | (with_reducible first | exact HB.out | apply below_alloc | apply pw_below_drewN | apply below_drew1 | refine below_set ?_ GE221.out | refine below_set ?_ GE222.out) | exact HB.out)⟩⟩
        · rw [if_neg c8] at H
          have c8b0 : (a0_2 == a1_2) = false := beq_eq_false_iff_ne.mpr c8
          have c8b1 : (a0_2 != a1_2) = true := bne_iff_ne.mpr c8
          have H' := Aside0.mk H
          clear H
          have hnb24 := NB221_222.out
          have hnc24 := NB222_221.out
          have hcz25_0 : w5.cell? ⟨gb221, 0, none⟩ = some (.int .i64 a0_0) := (blk_cell BK221.out 0).trans rfl
          have hcz25_1 : w5.cell? ⟨gb221, 1, none⟩ = some (.int .i64 a0_1) := (blk_cell BK221.out 1).trans rfl
          have hcz25_2 : w5.cell? ⟨gb221, 2, none⟩ = some (.int .i64 a0_2) := (blk_cell BK221.out 2).trans rfl
          have hcz25_3 : w5.cell? ⟨gb221, 3, none⟩ = some (.string a0_3) := (blk_cell BK221.out 3).trans rfl
          have hcz25_4 : w5.cell? ⟨gb221, 4, none⟩ = some (.string a0_4) := (blk_cell BK221.out 4).trans rfl
          have hcz25_5 : w5.cell? ⟨gb221, 5, none⟩ = some (.slice A0_5 l0_5.length c0_5) := (blk_cell BK221.out 5).trans rfl
          have hcz25_6 : w5.cell? ⟨gb221, 6, none⟩ = some (.slice A0_6 l0_6.length c0_6) := (blk_cell BK221.out 6).trans rfl
          have hfz25_0 := blk_frozen BK221.out 0
          have hfz25_1 := blk_frozen BK221.out 1
          have hfz25_2 := blk_frozen BK221.out 2
          have hfz25_3 := blk_frozen BK221.out 3
          have hfz25_4 := blk_frozen BK221.out 4
          have hfz25_5 := blk_frozen BK221.out 5
          have hfz25_6 := blk_frozen BK221.out 6
          have hcz26_0 : w5.cell? ⟨gb222, 0, none⟩ = some (.int .i64 a1_0) := (blk_cell BK222.out 0).trans rfl
          have hcz26_1 : w5.cell? ⟨gb222, 1, none⟩ = some (.int .i64 a1_1) := (blk_cell BK222.out 1).trans rfl
          have hcz26_2 : w5.cell? ⟨gb222, 2, none⟩ = some (.int .i64 a1_2) := (blk_cell BK222.out 2).trans rfl
          have hcz26_3 : w5.cell? ⟨gb222, 3, none⟩ = some (.string a1_3) := (blk_cell BK222.out 3).trans rfl
          have hcz26_4 : w5.cell? ⟨gb222, 4, none⟩ = some (.string a1_4) := (blk_cell BK222.out 4).trans rfl
          have hcz26_5 : w5.cell? ⟨gb222, 5, none⟩ = some (.slice A1_5 l1_5.length c1_5) := (blk_cell BK222.out 5).trans rfl
          have hcz26_6 : w5.cell? ⟨gb222, 6, none⟩ = some (.slice A1_6 l1_6.length c1_6) := (blk_cell BK222.out 6).trans rfl
          have hfz26_0 := blk_frozen BK222.out 0
          have hfz26_1 := blk_frozen BK222.out 1
          have hfz26_2 := blk_frozen BK222.out 2
          have hfz26_3 := blk_frozen BK222.out 3
          have hfz26_4 := blk_frozen BK222.out 4
          have hfz26_5 := blk_frozen BK222.out 5
          have hfz26_6 := blk_frozen BK222.out 6
          go_wp2
          repeat (go_quiet (fail); try go_wp2)
          go_meet
          case rel => exact ⟨_, (true), (by first | rfl | (simp; done) | (simp [*]; done)), H', ⟨by first | omega | exact Nat.le_refl _⟩, ⟨by (with_reducible repeat (first | refine blk_drewN ?_ _ | refine blk_drew ?_ | refine blk_alloc ?_ _)); exact BK221.out⟩, ⟨by (with_reducible repeat (first | refine blk_drewN ?_ _ | refine blk_drew ?_ | refine blk_alloc ?_ _)); exact BK222.out⟩, ⟨by repeat (first | (with_reducible first | exact HB.out | apply below_alloc | apply pw_below_drewN | apply below_drew1 | refine below_set ?_ GE221.out | refine below_set ?_ GE222.out) | exact HB.out)⟩⟩
      · rw [if_neg c7] at H
        have c7b0 : (a0_1 == a1_1) = false := beq_eq_false_iff_ne.mpr c7
        have c7b1 : (a0_1 != a1_1) = true := bne_iff_ne.mpr c7
        have H' := Aside0.mk H
        clear H
        have hnb27 := NB221_222.out
        have hnc27 := NB222_221.out
        have hcz28_0 : w5.cell? ⟨gb221, 0, none⟩ = some (.int .i64 a0_0) := (blk_cell BK221.out 0).trans rfl
        have hcz28_1 : w5.cell? ⟨gb221, 1, none⟩ = some (.int .i64 a0_1) := (blk_cell BK221.out 1).trans rfl
        have hcz28_2 : w5.cell? ⟨gb221, 2, none⟩ = some (.int .i64 a0_2) := (blk_cell BK221.out 2).trans rfl
        have hcz28_3 : w5.cell? ⟨gb221, 3, none⟩ = some (.string a0_3) := (blk_cell BK221.out 3).trans rfl
        have hcz28_4 : w5.cell? ⟨gb221, 4, none⟩ = some (.string a0_4) := (blk_cell BK221.out 4).trans rfl
        have hcz28_5 : w5.cell? ⟨gb221, 5, none⟩ = some (.slice A0_5 l0_5.length c0_5) := (blk_cell BK221.out 5).trans rfl
        have hcz28_6 : w5.cell? ⟨gb221, 6, none⟩ = some (.slice A0_6 l0_6.length c0_6) := (blk_cell BK221.out 6).trans rfl
        have hfz28_0 := blk_frozen BK221.out 0
        have hfz28_1 := blk_frozen BK221.out 1
        have hfz28_2 := blk_frozen BK221.out 2
        have hfz28_3 := blk_frozen BK221.out 3
        have hfz28_4 := blk_frozen BK221.out 4
        have hfz28_5 := blk_frozen BK221.out 5
        have hfz28_6 := blk_frozen BK221.out 6
        have hcz29_0 : w5.cell? ⟨gb222, 0, none⟩ = some (.int .i64 a1_0) := (blk_cell BK222.out 0).trans rfl
        have hcz29_1 : w5.cell? ⟨gb222, 1, none⟩ = some (.int .i64 a1_1) := (blk_cell BK222.out 1).trans rfl
        have hcz29_2 : w5.cell? ⟨gb222, 2, none⟩ = some (.int .i64 a1_2) := (blk_cell BK222.out 2).trans rfl
        have hcz29_3 : w5.cell? ⟨gb222, 3, none⟩ = some (.string a1_3) := (blk_cell BK222.out 3).trans rfl
        have hcz29_4 : w5.cell? ⟨gb222, 4, none⟩ = some (.string a1_4) := (blk_cell BK222.out 4).trans rfl
        have hcz29_5 : w5.cell? ⟨gb222, 5, none⟩ = some (.slice A1_5 l1_5.length c1_5) := (blk_cell BK222.out 5).trans rfl
        have hcz29_6 : w5.cell? ⟨gb222, 6, none⟩ = some (.slice A1_6 l1_6.length c1_6) := (blk_cell BK222.out 6).trans rfl
        have hfz29_0 := blk_frozen BK222.out 0
        have hfz29_1 := blk_frozen BK222.out 1
        have hfz29_2 := blk_frozen BK222.out 2
        have hfz29_3 := blk_frozen BK222.out 3
        have hfz29_4 := blk_frozen BK222.out 4
        have hfz29_5 := blk_frozen BK222.out 5
        have hfz29_6 := blk_frozen BK222.out 6
        go_wp2
        repeat (go_quiet (fail); try go_wp2)
        go_meet
        case rel => exact ⟨_, (true), (by first | rfl | (simp; done) | (simp [*]; done)), H', ⟨by first | omega | exact Nat.le_refl _⟩, ⟨by (with_reducible repeat (first | refine blk_drewN ?_ _ | refine blk_drew ?_ | refine blk_alloc ?_ _)); exact BK221.out⟩, ⟨by (with_reducible repeat (first | refine blk_drewN ?_ _ | refine blk_drew ?_ | refine blk_alloc ?_ _)); exact BK222.out⟩, ⟨by repeat (first | (with_reducible first | exact HB.out | apply below_alloc | apply pw_below_drewN | apply below_drew1 | refine below_set ?_ GE221.out | refine below_set ?_ GE222.out) | exact HB.out)⟩⟩
    · rw [if_neg c6] at H
      have c6b0 : (a0_0 == a1_0) = false := beq_eq_false_iff_ne.mpr c6
      have c6b1 : (a0_0 != a1_0) = true := bne_iff_ne.mpr c6
      (first | rw [c6b0] | (simp only [i64_w, i32_w]; rw [c6b0]) | skip)
      have H' := Aside0.mk H
      clear H
      have hnb30 := NB221_222.out
      have hnc30 := NB222_221.out
      have hcz31_0 : w5.cell? ⟨gb221, 0, none⟩ = some (.int .i64 a0_0) := (blk_cell BK221.out 0).trans rfl
      have hcz31_1 : w5.cell? ⟨gb221, 1, none⟩ = some (.int .i64 a0_1) := (blk_cell BK221.out 1).trans rfl
      have hcz31_2 : w5.cell? ⟨gb221, 2, none⟩ = some (.int .i64 a0_2) := (blk_cell BK221.out 2).trans rfl
      have hcz31_3 : w5.cell? ⟨gb221, 3, none⟩ = some (.string a0_3) := (blk_cell BK221.out 3).trans rfl
      have hcz31_4 : w5.cell? ⟨gb221, 4, none⟩ = some (.string a0_4) := (blk_cell BK221.out 4).trans rfl
      have hcz31_5 : w5.cell? ⟨gb221, 5, none⟩ = some (.slice A0_5 l0_5.length c0_5) := (blk_cell BK221.out 5).trans rfl
      have hcz31_6 : w5.cell? ⟨gb221, 6, none⟩ = some (.slice A0_6 l0_6.length c0_6) := (blk_cell BK221.out 6).trans rfl
      have hfz31_0 := blk_frozen BK221.out 0
      have hfz31_1 := blk_frozen BK221.out 1
      have hfz31_2 := blk_frozen BK221.out 2
      have hfz31_3 := blk_frozen BK221.out 3
      have hfz31_4 := blk_frozen BK221.out 4
      have hfz31_5 := blk_frozen BK221.out 5
      have hfz31_6 := blk_frozen BK221.out 6
      have hcz32_0 : w5.cell? ⟨gb222, 0, none⟩ = some (.int .i64 a1_0) := (blk_cell BK222.out 0).trans rfl
      have hcz32_1 : w5.cell? ⟨gb222, 1, none⟩ = some (.int .i64 a1_1) := (blk_cell BK222.out 1).trans rfl
      have hcz32_2 : w5.cell? ⟨gb222, 2, none⟩ = some (.int .i64 a1_2) := (blk_cell BK222.out 2).trans rfl
      have hcz32_3 : w5.cell? ⟨gb222, 3, none⟩ = some (.string a1_3) := (blk_cell BK222.out 3).trans rfl
      have hcz32_4 : w5.cell? ⟨gb222, 4, none⟩ = some (.string a1_4) := (blk_cell BK222.out 4).trans rfl
      have hcz32_5 : w5.cell? ⟨gb222, 5, none⟩ = some (.slice A1_5 l1_5.length c1_5) := (blk_cell BK222.out 5).trans rfl
      have hcz32_6 : w5.cell? ⟨gb222, 6, none⟩ = some (.slice A1_6 l1_6.length c1_6) := (blk_cell BK222.out 6).trans rfl
      have hfz32_0 := blk_frozen BK222.out 0
      have hfz32_1 := blk_frozen BK222.out 1
      have hfz32_2 := blk_frozen BK222.out 2
      have hfz32_3 := blk_frozen BK222.out 3
      have hfz32_4 := blk_frozen BK222.out 4
      have hfz32_5 := blk_frozen BK222.out 5
      have hfz32_6 := blk_frozen BK222.out 6
      go_wp2
      repeat (go_quiet (fail); try go_wp2)
      go_meet
      case rel => exact ⟨_, (true), (by first | rfl | (simp; done) | (simp [*]; done)), H', ⟨by first | omega | exact Nat.le_refl _⟩, ⟨by (with_reducible repeat (first | refine blk_drewN ?_ _ | refine blk_drew ?_ | refine blk_alloc ?_ _)); exact BK221.out⟩, ⟨by (with_reducible repeat (first | refine blk_drewN ?_ _ | refine blk_drew ?_ | refine blk_alloc ?_ _)); exact BK222.out⟩, ⟨by repeat (first | (with_reducible first | exact HB.out | apply below_alloc | apply pw_below_drewN | apply below_drew1 | refine below_set ?_ GE221.out | refine below_set ?_ GE222.out) | exact HB.out)⟩⟩
  case rest =>
    clear HC3
    try clear c1
    try clear c2
    try clear p2
    try clear c3
    try clear c6
    try clear c6b0
    try clear c6b1
    try clear c7
    try clear c7b0
    try clear c7b1
    try clear c8
    try clear c8b0
    try clear c8b1
    try clear c9
    try clear c9b0
    try clear c9b1
    try clear c10
    try clear c10b0
    try clear c10b1
    try clear c11
    try clear c11b0
    try clear c11b1
    try clear c11b2
    try clear c12
    try clear c15
    try clear c18
    try clear c21
    try clear c24
    try clear c27
    try clear c30
    try clear c32
    try clear hcz13_0
    try clear hcz13_1
    try clear hcz13_2
    try clear hcz13_3
    try clear hcz13_4
    try clear hcz13_5
    try clear hcz13_6
    try clear hcz14_0
    try clear hcz14_1
    try clear hcz14_2
    try clear hcz14_3
    try clear hcz14_4
    try clear hcz14_5
    try clear hcz14_6
    try clear hcz16_0
    try clear hcz16_1
    try clear hcz16_2
    try clear hcz16_3
    try clear hcz16_4
    try clear hcz16_5
    try clear hcz16_6
    try clear hcz17_0
    try clear hcz17_1
    try clear hcz17_2
    try clear hcz17_3
    try clear hcz17_4
    try clear hcz17_5
    try clear hcz17_6
    try clear hcz19_0
    try clear hcz19_1
    try clear hcz19_2
    try clear hcz19_3
    try clear hcz19_4
    try clear hcz19_5
    try clear hcz19_6
    try clear hcz20_0
    try clear hcz20_1
    try clear hcz20_2
    try clear hcz20_3
    try clear hcz20_4
    try clear hcz20_5
    try clear hcz20_6
    try clear hcz22_0
    try clear hcz22_1
    try clear hcz22_2
    try clear hcz22_3
    try clear hcz22_4
    try clear hcz22_5
    try clear hcz22_6
    try clear hcz23_0
    try clear hcz23_1
    try clear hcz23_2
    try clear hcz23_3
    try clear hcz23_4
    try clear hcz23_5
    try clear hcz23_6
    try clear hcz25_0
    try clear hcz25_1
    try clear hcz25_2
    try clear hcz25_3
    try clear hcz25_4
    try clear hcz25_5
    try clear hcz25_6
    try clear hcz26_0
    try clear hcz26_1
    try clear hcz26_2
    try clear hcz26_3
    try clear hcz26_4
    try clear hcz26_5
    try clear hcz26_6
    try clear hcz28_0
    try clear hcz28_1
    try clear hcz28_2
    try clear hcz28_3
    try clear hcz28_4
    try clear hcz28_5
    try clear hcz28_6
    try clear hcz29_0
    try clear hcz29_1
    try clear hcz29_2
    try clear hcz29_3
    try clear hcz29_4
    try clear hcz29_5
    try clear hcz29_6
    try clear hcz31_0
    try clear hcz31_1
    try clear hcz31_2
    try clear hcz31_3
    try clear hcz31_4
    try clear hcz31_5
    try clear hcz31_6
    try clear hcz32_0
    try clear hcz32_1
    try clear hcz32_2
    try clear hcz32_3
    try clear hcz32_4
    try clear hcz32_5
    try clear hcz32_6
    try clear hfz13_0
    try clear hfz13_1
    try clear hfz13_2
    try clear hfz13_3
    try clear hfz13_4
    try clear hfz13_5
    try clear hfz13_6
    try clear hfz14_0
    try clear hfz14_1
    try clear hfz14_2
    try clear hfz14_3
    try clear hfz14_4
    try clear hfz14_5
    try clear hfz14_6
    try clear hfz16_0
    try clear hfz16_1
    try clear hfz16_2
    try clear hfz16_3
    try clear hfz16_4
    try clear hfz16_5
    try clear hfz16_6
    try clear hfz17_0
    try clear hfz17_1
    try clear hfz17_2
    try clear hfz17_3
    try clear hfz17_4
    try clear hfz17_5
    try clear hfz17_6
    try clear hfz19_0
    try clear hfz19_1
    try clear hfz19_2
    try clear hfz19_3
    try clear hfz19_4
    try clear hfz19_5
    try clear hfz19_6
    try clear hfz20_0
    try clear hfz20_1
    try clear hfz20_2
    try clear hfz20_3
    try clear hfz20_4
    try clear hfz20_5
    try clear hfz20_6
    try clear hfz22_0
    try clear hfz22_1
    try clear hfz22_2
    try clear hfz22_3
    try clear hfz22_4
    try clear hfz22_5
    try clear hfz22_6
    try clear hfz23_0
    try clear hfz23_1
    try clear hfz23_2
    try clear hfz23_3
    try clear hfz23_4
    try clear hfz23_5
    try clear hfz23_6
    try clear hfz25_0
    try clear hfz25_1
    try clear hfz25_2
    try clear hfz25_3
    try clear hfz25_4
    try clear hfz25_5
    try clear hfz25_6
    try clear hfz26_0
    try clear hfz26_1
    try clear hfz26_2
    try clear hfz26_3
    try clear hfz26_4
    try clear hfz26_5
    try clear hfz26_6
    try clear hfz28_0
    try clear hfz28_1
    try clear hfz28_2
    try clear hfz28_3
    try clear hfz28_4
    try clear hfz28_5
    try clear hfz28_6
    try clear hfz29_0
    try clear hfz29_1
    try clear hfz29_2
    try clear hfz29_3
    try clear hfz29_4
    try clear hfz29_5
    try clear hfz29_6
    try clear hfz31_0
    try clear hfz31_1
    try clear hfz31_2
    try clear hfz31_3
    try clear hfz31_4
    try clear hfz31_5
    try clear hfz31_6
    try clear hfz32_0
    try clear hfz32_1
    try clear hfz32_2
    try clear hfz32_3
    try clear hfz32_4
    try clear hfz32_5
    try clear hfz32_6
    obtain ⟨kq, x57_2, rfl, HA, HJ2, BK221, BK222, HB⟩ := hcut
    cases kq with
    | zero => exact absurd HA.out (by simp [prebendref12_Same.j0])
    | succ kj2 =>
      have H := HA.out
      clear HA
      simp only [prebendref12_Same.j0] at H
      by_cases c33 : x57_2 = true
      · subst c33
        have H1 : (some false) = some r := by rw [if_pos rfl] at H; exact H
        clear H
        have H := H1
        clear H1
        obtain rfl := Option.some.inj H
        go_wp2
        repeat (go_quiet (fail); try go_wp2)
        go_ret
        exact ⟨by first | rfl | (simp [errW_none, errW_some] <;> rfl) | (simp [*, errW_none, errW_some] <;> rfl), by repeat (first | (with_reducible first | exact HB.out | apply below_alloc | apply pw_below_drewN | apply below_drew1 | refine below_set ?_ GE221.out | refine below_set ?_ GE222.out) | exact HB.out)⟩
      · replace c33 := Bool.eq_false_iff.mpr c33
        subst c33
        have H1 : (prebendref12_Same.l0 kj2 0 a0_0 a0_1 a0_2 a0_3 a0_4 l0_5 l0_6 a1_0 a1_1 a1_2 a1_3 a1_4 l1_5 l1_6) = some r := by rw [if_neg (show ¬ (false = true) by decide)] at H; exact H
        clear H
        have H := H1
        clear H1
        have H' := Aside0.mk H
        clear H
        go_wp2
        repeat (go_quiet (fail); try go_wp2)
        go_loopg [5] kj2 (fun kq v5 w' => ∃ (x5_2 : Int), v5 = .int .i64 x5_2 ∧ Aside0 (prebendref12_Same.l0 kq x5_2 a0_0 a0_1 a0_2 a0_3 a0_4 l0_5 l0_6 a1_0 a1_1 a1_2 a1_3 a1_4 l1_5 l1_6 = some r) ∧ Aside0 (kq ≤ kj2) ∧ Aside0 (w'.heap[gb221]? = some (.cells #[.int .i64 a0_0, .int .i64 a0_1, .int .i64 a0_2, .string a0_3, .string a0_4, (.slice A0_5 l0_5.length c0_5), (.slice A0_6 l0_6.length c0_6)] 50 (0, 0))) ∧ Aside0 (w'.heap[gb222]? = some (.cells #[.int .i64 a1_0, .int .i64 a1_1, .int .i64 a1_2, .string a1_3, .string a1_4, (.slice A1_5 l1_5.length c1_5), (.slice A1_6 l1_6.length c1_6)] 50 (0, 0))) ∧ Aside0 (Below w.heap.size w w'))
        case atStart => exact ⟨(0), (by first | rfl | (simp; done) | (simp [*]; done)), H', ⟨Nat.le_refl _⟩, ⟨by (with_reducible repeat (first | refine blk_drewN ?_ _ | refine blk_drew ?_ | refine blk_alloc ?_ _)); exact BK221.out⟩, ⟨by (with_reducible repeat (first | refine blk_drewN ?_ _ | refine blk_drew ?_ | refine blk_alloc ?_ _)); exact BK222.out⟩, ⟨by repeat (first | (with_reducible first | exact HB.out | apply below_alloc | apply pw_below_drewN | apply below_drew1 | refine below_set ?_ GE221.out | refine below_set ?_ GE222.out) | exact HB.out)⟩⟩
        case round =>
          clear H'
          try clear c1
          try clear c2
          try clear p2
          try clear c3
          try clear c6
          try clear c6b0
          try clear c6b1
          try clear c7
          try clear c7b0
          try clear c7b1
          try clear c8
          try clear c8b0
          try clear c8b1
          try clear c9
          try clear c9b0
          try clear c9b1
          try clear c10
          try clear c10b0
          try clear c10b1
          try clear c11
          try clear c11b0
          try clear c11b1
          try clear c11b2
          try clear c12
          try clear c15
          try clear c18
          try clear c21
          try clear c24
          try clear c27
          try clear c30
          try clear c32
          try clear c33
          try clear hcz13_0
          try clear hcz13_1
          try clear hcz13_2
          try clear hcz13_3
          try clear hcz13_4
          try clear hcz13_5
          try clear hcz13_6
          try clear hcz14_0
          try clear hcz14_1
          try clear hcz14_2
          try clear hcz14_3
          try clear hcz14_4
          try clear hcz14_5
          try clear hcz14_6
          try clear hcz16_0
          try clear hcz16_1
          try clear hcz16_2
          try clear hcz16_3
          try clear hcz16_4
          try clear hcz16_5
          try clear hcz16_6
          try clear hcz17_0
          try clear hcz17_1
          try clear hcz17_2
          try clear hcz17_3
          try clear hcz17_4
          try clear hcz17_5
          try clear hcz17_6
          try clear hcz19_0
          try clear hcz19_1
          try clear hcz19_2
          try clear hcz19_3
          try clear hcz19_4
          try clear hcz19_5
          try clear hcz19_6
          try clear hcz20_0
          try clear hcz20_1
          try clear hcz20_2
          try clear hcz20_3
          try clear hcz20_4
          try clear hcz20_5
          try clear hcz20_6
          try clear hcz22_0
          try clear hcz22_1
          try clear hcz22_2
          try clear hcz22_3
          try clear hcz22_4
          try clear hcz22_5
          try clear hcz22_6
          try clear hcz23_0
          try clear hcz23_1
          try clear hcz23_2
          try clear hcz23_3
          try clear hcz23_4
          try clear hcz23_5
          try clear hcz23_6
          try clear hcz25_0
          try clear hcz25_1
          try clear hcz25_2
          try clear hcz25_3
          try clear hcz25_4
          try clear hcz25_5
          try clear hcz25_6
          try clear hcz26_0
          try clear hcz26_1
          try clear hcz26_2
          try clear hcz26_3
          try clear hcz26_4
          try clear hcz26_5
          try clear hcz26_6
          try clear hcz28_0
          try clear hcz28_1
          try clear hcz28_2
          try clear hcz28_3
          try clear hcz28_4
          try clear hcz28_5
          try clear hcz28_6
          try clear hcz29_0
          try clear hcz29_1
          try clear hcz29_2
          try clear hcz29_3
          try clear hcz29_4
          try clear hcz29_5
          try clear hcz29_6
          try clear hcz31_0
          try clear hcz31_1
          try clear hcz31_2
          try clear hcz31_3
          try clear hcz31_4
          try clear hcz31_5
          try clear hcz31_6
          try clear hcz32_0
          try clear hcz32_1
          try clear hcz32_2
          try clear hcz32_3
          try clear hcz32_4
          try clear hcz32_5
          try clear hcz32_6
          try clear hfz13_0
          try clear hfz13_1
          try clear hfz13_2
          try clear hfz13_3
          try clear hfz13_4
          try clear hfz13_5
          try clear hfz13_6
          try clear hfz14_0
          try clear hfz14_1
          try clear hfz14_2
          try clear hfz14_3
          try clear hfz14_4
          try clear hfz14_5
          try clear hfz14_6
          try clear hfz16_0
          try clear hfz16_1
          try clear hfz16_2
          try clear hfz16_3
          try clear hfz16_4
          try clear hfz16_5
          try clear hfz16_6
          try clear hfz17_0
          try clear hfz17_1
          try clear hfz17_2
          try clear hfz17_3
          try clear hfz17_4
          try clear hfz17_5
          try clear hfz17_6
          try clear hfz19_0
          try clear hfz19_1
          try clear hfz19_2
          try clear hfz19_3
          try clear hfz19_4
          try clear hfz19_5
          try clear hfz19_6
          try clear hfz20_0
          try clear hfz20_1
          try clear hfz20_2
          try clear hfz20_3
          try clear hfz20_4
          try clear hfz20_5
          try clear hfz20_6
          try clear hfz22_0
          try clear hfz22_1
          try clear hfz22_2
          try clear hfz22_3
          try clear hfz22_4
          try clear hfz22_5
          try clear hfz22_6
          try clear hfz23_0
          try clear hfz23_1
          try clear hfz23_2
          try clear hfz23_3
          try clear hfz23_4
          try clear hfz23_5
          try clear hfz23_6
          try clear hfz25_0
          try clear hfz25_1
          try clear hfz25_2
          try clear hfz25_3
          try clear hfz25_4
          try clear hfz25_5
          try clear hfz25_6
          try clear hfz26_0
          try clear hfz26_1
          try clear hfz26_2
          try clear hfz26_3
          try clear hfz26_4
          try clear hfz26_5
          try clear hfz26_6
          try clear hfz28_0
          try clear hfz28_1
          try clear hfz28_2
          try clear hfz28_3
          try clear hfz28_4
          try clear hfz28_5
          try clear hfz28_6
          try clear hfz29_0
          try clear hfz29_1
          try clear hfz29_2
          try clear hfz29_3
          try clear hfz29_4
          try clear hfz29_5
          try clear hfz29_6
          try clear hfz31_0
          try clear hfz31_1
          try clear hfz31_2
          try clear hfz31_3
          try clear hfz31_4
          try clear hfz31_5
          try clear hfz31_6
          try clear hfz32_0
          try clear hfz32_1
          try clear hfz32_2
          try clear hfz32_3
          try clear hfz32_4
          try clear hfz32_5
          try clear hfz32_6
          try clear p2
          obtain ⟨x5_2, rfl, HA, HK2, BK221, BK222, HB⟩ := hrel
          cases gk with
          | zero => exact absurd HA.out (by simp [prebendref12_Same.l0])
          | succ k2 =>
            have H := HA.out
            clear HA
            simp only [prebendref12_Same.l0] at H
            by_cases c34 : x5_2 < (l0_5.length : Int)
            · rw [if_pos c34] at H
              have c34b0 : decide (x5_2 < (l0_5.length : Int)) = true := decide_eq_true c34
              clear c34
              by_cases c35 : 0 ≤ x5_2
              · rw [if_pos c35] at H
                have c35b0 : decide (0 ≤ x5_2) = true := decide_eq_true c35
                clear c35
                by_cases c36 : x5_2 < (l1_5.length : Int)
                · rw [if_pos c36] at H
                  have c36b0 : decide (x5_2 < (l1_5.length : Int)) = true := decide_eq_true c36
                  clear c36
                  by_cases c37 : (rd l0_5 x5_2) = (rd l1_5 x5_2)
                  · rw [if_pos c37] at H
                    have c37b0 : ((rd l0_5 x5_2) == (rd l1_5 x5_2)) = true := beq_iff_eq.mpr c37
                    have c37b1 : ((rd l0_5 x5_2) != (rd l1_5 x5_2)) = false := bne_eq_false_iff_eq.mpr c37
                    clear c37
                    have H' := Aside0.mk H
                    clear H
                    have hnb38 := NB221_222.out
                    have hnc38 := NB222_221.out
                    have hcz39_0 : wr.cell? ⟨gb221, 0, none⟩ = some (.int .i64 a0_0) := (blk_cell BK221.out 0).trans rfl
                    have hcz39_1 : wr.cell? ⟨gb221, 1, none⟩ = some (.int .i64 a0_1) := (blk_cell BK221.out 1).trans rfl
                    have hcz39_2 : wr.cell? ⟨gb221, 2, none⟩ = some (.int .i64 a0_2) := (blk_cell BK221.out 2).trans rfl
                    have hcz39_3 : wr.cell? ⟨gb221, 3, none⟩ = some (.string a0_3) := (blk_cell BK221.out 3).trans rfl
                    have hcz39_4 : wr.cell? ⟨gb221, 4, none⟩ = some (.string a0_4) := (blk_cell BK221.out 4).trans rfl
                    have hcz39_5 : wr.cell? ⟨gb221, 5, none⟩ = some (.slice A0_5 l0_5.length c0_5) := (blk_cell BK221.out 5).trans rfl
                    have hcz39_6 : wr.cell? ⟨gb221, 6, none⟩ = some (.slice A0_6 l0_6.length c0_6) := (blk_cell BK221.out 6).trans rfl
                    have hfz39_0 := blk_frozen BK221.out 0
                    have hfz39_1 := blk_frozen BK221.out 1
                    have hfz39_2 := blk_frozen BK221.out 2
                    have hfz39_3 := blk_frozen BK221.out 3
                    have hfz39_4 := blk_frozen BK221.out 4
                    have hfz39_5 := blk_frozen BK221.out 5
                    have hfz39_6 := blk_frozen BK221.out 6
                    have p223 : 0 ≤ (x5_2 : Int) := of_decide_eq_true (by first | (with_reducible assumption) | assumption)
                    have q223 : x5_2 < (l0_5.length : Int) := of_decide_eq_true (by first | (with_reducible assumption) | assumption)
                    obtain ⟨ad223, e223, hx223_0⟩ := Kd.at_int HR0_5.out x5_2 p223 q223
                    cases e223
                    replace hx223_0 := (HB.out.cell (World.block_lt_of_cell? w _ hx223_0)).trans hx223_0
                    replace p223 := eq_true p223
                    replace q223 := eq_true q223
                    have hcz40_0 : wr.cell? ⟨gb222, 0, none⟩ = some (.int .i64 a1_0) := (blk_cell BK222.out 0).trans rfl
                    have hcz40_1 : wr.cell? ⟨gb222, 1, none⟩ = some (.int .i64 a1_1) := (blk_cell BK222.out 1).trans rfl
                    have hcz40_2 : wr.cell? ⟨gb222, 2, none⟩ = some (.int .i64 a1_2) := (blk_cell BK222.out 2).trans rfl
                    have hcz40_3 : wr.cell? ⟨gb222, 3, none⟩ = some (.string a1_3) := (blk_cell BK222.out 3).trans rfl
                    have hcz40_4 : wr.cell? ⟨gb222, 4, none⟩ = some (.string a1_4) := (blk_cell BK222.out 4).trans rfl
                    have hcz40_5 : wr.cell? ⟨gb222, 5, none⟩ = some (.slice A1_5 l1_5.length c1_5) := (blk_cell BK222.out 5).trans rfl
                    have hcz40_6 : wr.cell? ⟨gb222, 6, none⟩ = some (.slice A1_6 l1_6.length c1_6) := (blk_cell BK222.out 6).trans rfl
                    have hfz40_0 := blk_frozen BK222.out 0
                    have hfz40_1 := blk_frozen BK222.out 1
                    have hfz40_2 := blk_frozen BK222.out 2
                    have hfz40_3 := blk_frozen BK222.out 3
                    have hfz40_4 := blk_frozen BK222.out 4
                    have hfz40_5 := blk_frozen BK222.out 5
                    have hfz40_6 := blk_frozen BK222.out 6
                    have p224 : 0 ≤ (x5_2 : Int) := of_decide_eq_true (by first | (with_reducible assumption) | assumption)
                    have q224 : x5_2 < (l1_5.length : Int) := of_decide_eq_true (by first | (with_reducible assumption) | assumption)
                    obtain ⟨ad224, e224, hx224_0⟩ := Kd.at_int HR1_5.out x5_2 p224 q224
                    cases e224
                    replace hx224_0 := (HB.out.cell (World.block_lt_of_cell? w _ hx224_0)).trans hx224_0
                    replace p224 := eq_true p224
                    replace q224 := eq_true q224
                    go_wp2
                    repeat (go_quiet (fail); try go_wp2)
                    go_roundg k2
                    case measure => have := HJ2.out; have := HK2.out; omega
                    case rel => exact ⟨(wrap64 (x5_2 + 1)), (by first | rfl | (simp; done) | (simp [*]; done)), H', ⟨by have := HJ2.out; have := HK2.out; omega⟩, ⟨by (with_reducible repeat (first | refine blk_drewN ?_ _ | refine blk_drew ?_ | refine blk_alloc ?_ _)); exact BK221.out⟩, ⟨by (with_reducible repeat (first | refine blk_drewN ?_ _ | refine blk_drew ?_ | refine blk_alloc ?_ _)); exact BK222.out⟩, ⟨by repeat (first | (with_reducible first | exact HB.out | apply below_alloc | apply pw_below_drewN | apply below_drew1 | refine below_set ?_ GE221.out | refine below_set ?_ GE222.out) | exact HB.out)⟩⟩
                  · rw [if_neg c37] at H
                    have c37b0 : ((rd l0_5 x5_2) == (rd l1_5 x5_2)) = false := beq_eq_false_iff_ne.mpr c37
                    have c37b1 : ((rd l0_5 x5_2) != (rd l1_5 x5_2)) = true := bne_iff_ne.mpr c37
                    obtain rfl := Option.some.inj H
                    have hnb41 := NB221_222.out
                    have hnc41 := NB222_221.out
                    have hcz42_0 : wr.cell? ⟨gb221, 0, none⟩ = some (.int .i64 a0_0) := (blk_cell BK221.out 0).trans rfl
                    have hcz42_1 : wr.cell? ⟨gb221, 1, none⟩ = some (.int .i64 a0_1) := (blk_cell BK221.out 1).trans rfl
                    have hcz42_2 : wr.cell? ⟨gb221, 2, none⟩ = some (.int .i64 a0_2) := (blk_cell BK221.out 2).trans rfl
                    have hcz42_3 : wr.cell? ⟨gb221, 3, none⟩ = some (.string a0_3) := (blk_cell BK221.out 3).trans rfl
                    have hcz42_4 : wr.cell? ⟨gb221, 4, none⟩ = some (.string a0_4) := (blk_cell BK221.out 4).trans rfl
                    have hcz42_5 : wr.cell? ⟨gb221, 5, none⟩ = some (.slice A0_5 l0_5.length c0_5) := (blk_cell BK221.out 5).trans rfl
                    have hcz42_6 : wr.cell? ⟨gb221, 6, none⟩ = some (.slice A0_6 l0_6.length c0_6) := (blk_cell BK221.out 6).trans rfl
                    have hfz42_0 := blk_frozen BK221.out 0
                    have hfz42_1 := blk_frozen BK221.out 1
                    have hfz42_2 := blk_frozen BK221.out 2
                    have hfz42_3 := blk_frozen BK221.out 3
                    have hfz42_4 := blk_frozen BK221.out 4
                    have hfz42_5 := blk_frozen BK221.out 5
                    have hfz42_6 := blk_frozen BK221.out 6
                    have p223 : 0 ≤ (x5_2 : Int) := of_decide_eq_true (by first | (with_reducible assumption) | assumption)
                    have q223 : x5_2 < (l0_5.length : Int) := of_decide_eq_true (by first | (with_reducible assumption) | assumption)
                    obtain ⟨ad223, e223, hx223_0⟩ := Kd.at_int HR0_5.out x5_2 p223 q223
                    cases e223
                    replace hx223_0 := (HB.out.cell (World.block_lt_of_cell? w _ hx223_0)).trans hx223_0
                    replace p223 := eq_true p223
                    replace q223 := eq_true q223
                    have hcz43_0 : wr.cell? ⟨gb222, 0, none⟩ = some (.int .i64 a1_0) := (blk_cell BK222.out 0).trans rfl
                    have hcz43_1 : wr.cell? ⟨gb222, 1, none⟩ = some (.int .i64 a1_1) := (blk_cell BK222.out 1).trans rfl
                    have hcz43_2 : wr.cell? ⟨gb222, 2, none⟩ = some (.int .i64 a1_2) := (blk_cell BK222.out 2).trans rfl
                    have hcz43_3 : wr.cell? ⟨gb222, 3, none⟩ = some (.string a1_3) := (blk_cell BK222.out 3).trans rfl
                    have hcz43_4 : wr.cell? ⟨gb222, 4, none⟩ = some (.string a1_4) := (blk_cell BK222.out 4).trans rfl
                    have hcz43_5 : wr.cell? ⟨gb222, 5, none⟩ = some (.slice A1_5 l1_5.length c1_5) := (blk_cell BK222.out 5).trans rfl
                    have hcz43_6 : wr.cell? ⟨gb222, 6, none⟩ = some (.slice A1_6 l1_6.length c1_6) := (blk_cell BK222.out 6).trans rfl
                    have hfz43_0 := blk_frozen BK222.out 0
                    have hfz43_1 := blk_frozen BK222.out 1
                    have hfz43_2 := blk_frozen BK222.out 2
                    have hfz43_3 := blk_frozen BK222.out 3
                    have hfz43_4 := blk_frozen BK222.out 4
                    have hfz43_5 := blk_frozen BK222.out 5
                    have hfz43_6 := blk_frozen BK222.out 6
                    have p224 : 0 ≤ (x5_2 : Int) := of_decide_eq_true (by first | (with_reducible assumption) | assumption)
                    have q224 : x5_2 < (l1_5.length : Int) := of_decide_eq_true (by first | (with_reducible assumption) | assumption)
                    obtain ⟨ad224, e224, hx224_0⟩ := Kd.at_int HR1_5.out x5_2 p224 q224
                    cases e224
                    replace hx224_0 := (HB.out.cell (World.block_lt_of_cell? w _ hx224_0)).trans hx224_0
                    replace p224 := eq_true p224
                    replace q224 := eq_true q224
                    go_wp2
                    repeat (go_quiet (fail); try go_wp2)
                    go_ret
                    exact ⟨by first | rfl | (simp [errW_none, errW_some] <;> rfl) | (simp [*, errW_none, errW_some] <;> rfl), by repeat (first | (with_reducible first | exact HB.out | apply below_alloc | apply pw_below_drewN | apply below_drew1 | refine below_set ?_ GE221.out | refine below_set ?_ GE222.out) | exact HB.out)⟩
                · rw [if_neg c36] at H
                  exact absurd H (by simp)
              · rw [if_neg c35] at H
                exact absurd H (by simp)
            · rw [if_neg c34] at H
              have c34b0 : decide (x5_2 < (l0_5.length : Int)) = false := decide_eq_false c34
              clear c34
              have H' := Aside0.mk H
              clear H
              have hnb44 := NB221_222.out
              have hnc44 := NB222_221.out
              have hcz45_0 : wr.cell? ⟨gb221, 0, none⟩ = some (.int .i64 a0_0) := (blk_cell BK221.out 0).trans rfl
              have hcz45_1 : wr.cell? ⟨gb221, 1, none⟩ = some (.int .i64 a0_1) := (blk_cell BK221.out 1).trans rfl
              have hcz45_2 : wr.cell? ⟨gb221, 2, none⟩ = some (.int .i64 a0_2) := (blk_cell BK221.out 2).trans rfl
              have hcz45_3 : wr.cell? ⟨gb221, 3, none⟩ = some (.string a0_3) := (blk_cell BK221.out 3).trans rfl
              have hcz45_4 : wr.cell? ⟨gb221, 4, none⟩ = some (.string a0_4) := (blk_cell BK221.out 4).trans rfl
              have hcz45_5 : wr.cell? ⟨gb221, 5, none⟩ = some (.slice A0_5 l0_5.length c0_5) := (blk_cell BK221.out 5).trans rfl
              have hcz45_6 : wr.cell? ⟨gb221, 6, none⟩ = some (.slice A0_6 l0_6.length c0_6) := (blk_cell BK221.out 6).trans rfl
              have hfz45_0 := blk_frozen BK221.out 0
              have hfz45_1 := blk_frozen BK221.out 1
              have hfz45_2 := blk_frozen BK221.out 2
              have hfz45_3 := blk_frozen BK221.out 3
              have hfz45_4 := blk_frozen BK221.out 4
              have hfz45_5 := blk_frozen BK221.out 5
              have hfz45_6 := blk_frozen BK221.out 6
              go_wp2
              repeat (go_quiet (fail); try go_wp2)
              go_loopg [6] k2 (fun kq v6 w' => ∃ (x6_3 : Int), v6 = .int .i64 x6_3 ∧ Aside0 (prebendref12_Same.l1 kq x6_3 a0_0 a0_1 a0_2 a0_3 a0_4 l0_5 l0_6 a1_0 a1_1 a1_2 a1_3 a1_4 l1_5 l1_6 = some r) ∧ Aside0 (kq ≤ k2) ∧ Aside0 (w'.heap[gb221]? = some (.cells #[.int .i64 a0_0, .int .i64 a0_1, .int .i64 a0_2, .string a0_3, .string a0_4, (.slice A0_5 l0_5.length c0_5), (.slice A0_6 l0_6.length c0_6)] 50 (0, 0))) ∧ Aside0 (w'.heap[gb222]? = some (.cells #[.int .i64 a1_0, .int .i64 a1_1, .int .i64 a1_2, .string a1_3, .string a1_4, (.slice A1_5 l1_5.length c1_5), (.slice A1_6 l1_6.length c1_6)] 50 (0, 0))) ∧ Aside0 (Below w.heap.size w w'))
              case atStart => exact ⟨(0), (by first | rfl | (simp; done) | (simp [*]; done)), H', ⟨Nat.le_refl _⟩, ⟨by (with_reducible repeat (first | refine blk_drewN ?_ _ | refine blk_drew ?_ | refine blk_alloc ?_ _)); exact BK221.out⟩, ⟨by (with_reducible repeat (first | refine blk_drewN ?_ _ | refine blk_drew ?_ | refine blk_alloc ?_ _)); exact BK222.out⟩, ⟨by repeat (first | (with_reducible first | exact HB.out | apply below_alloc | apply pw_below_drewN | apply below_drew1 | refine below_set ?_ GE221.out | refine below_set ?_ GE222.out) | exact HB.out)⟩⟩
              case round =>
                clear H'
                try clear c1
                try clear c2
                try clear p2
                try clear q2
                try clear hx2
                try clear c3
                try clear c4
                try clear c6
                try clear c6b0
                try clear c6b1
                try clear p6
                try clear c7
                try clear c7b0
                try clear c7b1
                try clear c8
                try clear c8b0
                try clear c8b1
                try clear c9
                try clear c9b0
                try clear c9b1
                try clear c10
                try clear c10b0
                try clear c10b1
                try clear c11
                try clear c11b0
                try clear c11b1
                try clear c11b2
                try clear c12
                try clear c15
                try clear c18
                try clear c21
                try clear p22
                try clear q22
                try clear hx22
                try clear c24
                try clear c27
                try clear c30
                try clear c32
                try clear c33
                try clear c34
                try clear c34b0
                try clear c35
                try clear c35b0
                try clear c36
                try clear c36b0
                try clear c37
                try clear c37b0
                try clear c37b1
                try clear c38
                try clear c41
                try clear c44
                try clear hcz13_0
                try clear hcz13_1
                try clear hcz13_2
                try clear hcz13_3
                try clear hcz13_4
                try clear hcz13_5
                try clear hcz13_6
                try clear hcz14_0
                try clear hcz14_1
                try clear hcz14_2
                try clear hcz14_3
                try clear hcz14_4
                try clear hcz14_5
                try clear hcz14_6
                try clear hcz16_0
                try clear hcz16_1
                try clear hcz16_2
                try clear hcz16_3
                try clear hcz16_4
                try clear hcz16_5
                try clear hcz16_6
                try clear hcz17_0
                try clear hcz17_1
                try clear hcz17_2
                try clear hcz17_3
                try clear hcz17_4
                try clear hcz17_5
                try clear hcz17_6
                try clear hcz19_0
                try clear hcz19_1
                try clear hcz19_2
                try clear hcz19_3
                try clear hcz19_4
                try clear hcz19_5
                try clear hcz19_6
                try clear hcz20_0
                try clear hcz20_1
                try clear hcz20_2
                try clear hcz20_3
                try clear hcz20_4
                try clear hcz20_5
                try clear hcz20_6
                try clear hcz22_0
                try clear hcz22_1
                try clear hcz22_2
                try clear hcz22_3
                try clear hcz22_4
                try clear hcz22_5
                try clear hcz22_6
                try clear hcz23_0
                try clear hcz23_1
                try clear hcz23_2
                try clear hcz23_3
                try clear hcz23_4
                try clear hcz23_5
                try clear hcz23_6
                try clear hcz25_0
                try clear hcz25_1
                try clear hcz25_2
                try clear hcz25_3
                try clear hcz25_4
                try clear hcz25_5
                try clear hcz25_6
                try clear hcz26_0
                try clear hcz26_1
                try clear hcz26_2
                try clear hcz26_3
                try clear hcz26_4
                try clear hcz26_5
                try clear hcz26_6
                try clear hcz28_0
                try clear hcz28_1
                try clear hcz28_2
                try clear hcz28_3
                try clear hcz28_4
                try clear hcz28_5
                try clear hcz28_6
                try clear hcz29_0
                try clear hcz29_1
                try clear hcz29_2
                try clear hcz29_3
                try clear hcz29_4
                try clear hcz29_5
                try clear hcz29_6
                try clear hcz31_0
                try clear hcz31_1
                try clear hcz31_2
                try clear hcz31_3
                try clear hcz31_4
                try clear hcz31_5
                try clear hcz31_6
                try clear hcz32_0
                try clear hcz32_1
                try clear hcz32_2
                try clear hcz32_3
                try clear hcz32_4
                try clear hcz32_5
                try clear hcz32_6
                try clear hcz39_0
                try clear hcz39_1
                try clear hcz39_2
                try clear hcz39_3
                try clear hcz39_4
                try clear hcz39_5
                try clear hcz39_6
                try clear hcz40_0
                try clear hcz40_1
                try clear hcz40_2
                try clear hcz40_3
                try clear hcz40_4
                try clear hcz40_5
                try clear hcz40_6
                try clear hcz42_0
                try clear hcz42_1
                try clear hcz42_2
                try clear hcz42_3
                try clear hcz42_4
                try clear hcz42_5
                try clear hcz42_6
                try clear hcz43_0
                try clear hcz43_1
                try clear hcz43_2
                try clear hcz43_3
                try clear hcz43_4
                try clear hcz43_5
                try clear hcz43_6
                try clear hcz45_0
                try clear hcz45_1
                try clear hcz45_2
                try clear hcz45_3
                try clear hcz45_4
                try clear hcz45_5
                try clear hcz45_6
                try clear hfz13_0
                try clear hfz13_1
                try clear hfz13_2
                try clear hfz13_3
                try clear hfz13_4
                try clear hfz13_5
                try clear hfz13_6
                try clear hfz14_0
                try clear hfz14_1
                try clear hfz14_2
                try clear hfz14_3
                try clear hfz14_4
                try clear hfz14_5
                try clear hfz14_6
                try clear hfz16_0
                try clear hfz16_1
                try clear hfz16_2
                try clear hfz16_3
                try clear hfz16_4
                try clear hfz16_5
                try clear hfz16_6
                try clear hfz17_0
                try clear hfz17_1
                try clear hfz17_2
                try clear hfz17_3
                try clear hfz17_4
                try clear hfz17_5
                try clear hfz17_6
                try clear hfz19_0
                try clear hfz19_1
                try clear hfz19_2
                try clear hfz19_3
                try clear hfz19_4
                try clear hfz19_5
                try clear hfz19_6
                try clear hfz20_0
                try clear hfz20_1
                try clear hfz20_2
                try clear hfz20_3
                try clear hfz20_4
                try clear hfz20_5
                try clear hfz20_6
                try clear hfz22_0
                try clear hfz22_1
                try clear hfz22_2
                try clear hfz22_3
                try clear hfz22_4
                try clear hfz22_5
                try clear hfz22_6
                try clear hfz23_0
                try clear hfz23_1
                try clear hfz23_2
                try clear hfz23_3
                try clear hfz23_4
                try clear hfz23_5
                try clear hfz23_6
                try clear hfz25_0
                try clear hfz25_1
                try clear hfz25_2
                try clear hfz25_3
                try clear hfz25_4
                try clear hfz25_5
                try clear hfz25_6
                try clear hfz26_0
                try clear hfz26_1
                try clear hfz26_2
                try clear hfz26_3
                try clear hfz26_4
                try clear hfz26_5
                try clear hfz26_6
                try clear hfz28_0
                try clear hfz28_1
                try clear hfz28_2
                try clear hfz28_3
                try clear hfz28_4
                try clear hfz28_5
                try clear hfz28_6
                try clear hfz29_0
                try clear hfz29_1
                try clear hfz29_2
                try clear hfz29_3
                try clear hfz29_4
                try clear hfz29_5
                try clear hfz29_6
                try clear hfz31_0
                try clear hfz31_1
                try clear hfz31_2
                try clear hfz31_3
                try clear hfz31_4
                try clear hfz31_5
                try clear hfz31_6
                try clear hfz32_0
                try clear hfz32_1
                try clear hfz32_2
                try clear hfz32_3
                try clear hfz32_4
                try clear hfz32_5
                try clear hfz32_6
                try clear hfz39_0
                try clear hfz39_1
                try clear hfz39_2
                try clear hfz39_3
                try clear hfz39_4
                try clear hfz39_5
                try clear hfz39_6
                try clear hfz40_0
                try clear hfz40_1
                try clear hfz40_2
                try clear hfz40_3
                try clear hfz40_4
                try clear hfz40_5
                try clear hfz40_6
                try clear hfz42_0
                try clear hfz42_1
                try clear hfz42_2
                try clear hfz42_3
                try clear hfz42_4
                try clear hfz42_5
                try clear hfz42_6
                try clear hfz43_0
                try clear hfz43_1
                try clear hfz43_2
                try clear hfz43_3
                try clear hfz43_4
                try clear hfz43_5
                try clear hfz43_6
                try clear hfz45_0
                try clear hfz45_1
                try clear hfz45_2
                try clear hfz45_3
                try clear hfz45_4
                try clear hfz45_5
                try clear hfz45_6
                try clear hx223_0
                try clear hx224_0
                try clear p2
                try clear p223
                try clear p224
                try clear q223
                try clear q224
                obtain ⟨x6_3, rfl, HA, HK3, BK221, BK222, HB⟩ := hrel
                cases gk with
                | zero => exact absurd HA.out (by simp [prebendref12_Same.l1])
                | succ k3 =>
                  have H := HA.out
                  clear HA
                  simp only [prebendref12_Same.l1] at H
                  by_cases c46 : x6_3 < (l0_6.length : Int)
                  · rw [if_pos c46] at H
                    have c46b0 : decide (x6_3 < (l0_6.length : Int)) = true := decide_eq_true c46
                    clear c46
                    by_cases c47 : 0 ≤ x6_3
                    · rw [if_pos c47] at H
                      have c47b0 : decide (0 ≤ x6_3) = true := decide_eq_true c47
                      clear c47
                      by_cases c48 : x6_3 < (l1_6.length : Int)
                      · rw [if_pos c48] at H
                        have c48b0 : decide (x6_3 < (l1_6.length : Int)) = true := decide_eq_true c48
                        clear c48
                        by_cases c49 : (!(((rd_T87 l0_6 x6_3).f0) == ((rd_T87 l1_6 x6_3).f0)) || (!(((rd_T87 l0_6 x6_3).f1) == ((rd_T87 l1_6 x6_3).f1)))) = true
                        · rw [if_pos c49] at H
                          have c49b0 : (!(((rd_T87 l0_6 x6_3).f0) == ((rd_T87 l1_6 x6_3).f0)) || (!(((rd_T87 l0_6 x6_3).f1) == ((rd_T87 l1_6 x6_3).f1)))) = true := c49
                          clear c49
                          obtain rfl := Option.some.inj H
                          have hnb50 := NB221_222.out
                          have hnc50 := NB222_221.out
                          have hcz51_0 : wr.cell? ⟨gb221, 0, none⟩ = some (.int .i64 a0_0) := (blk_cell BK221.out 0).trans rfl
                          have hcz51_1 : wr.cell? ⟨gb221, 1, none⟩ = some (.int .i64 a0_1) := (blk_cell BK221.out 1).trans rfl
                          have hcz51_2 : wr.cell? ⟨gb221, 2, none⟩ = some (.int .i64 a0_2) := (blk_cell BK221.out 2).trans rfl
                          have hcz51_3 : wr.cell? ⟨gb221, 3, none⟩ = some (.string a0_3) := (blk_cell BK221.out 3).trans rfl
                          have hcz51_4 : wr.cell? ⟨gb221, 4, none⟩ = some (.string a0_4) := (blk_cell BK221.out 4).trans rfl
                          have hcz51_5 : wr.cell? ⟨gb221, 5, none⟩ = some (.slice A0_5 l0_5.length c0_5) := (blk_cell BK221.out 5).trans rfl
                          have hcz51_6 : wr.cell? ⟨gb221, 6, none⟩ = some (.slice A0_6 l0_6.length c0_6) := (blk_cell BK221.out 6).trans rfl
                          have hfz51_0 := blk_frozen BK221.out 0
                          have hfz51_1 := blk_frozen BK221.out 1
                          have hfz51_2 := blk_frozen BK221.out 2
                          have hfz51_3 := blk_frozen BK221.out 3
                          have hfz51_4 := blk_frozen BK221.out 4
                          have hfz51_5 := blk_frozen BK221.out 5
                          have hfz51_6 := blk_frozen BK221.out 6
                          have p225 : 0 ≤ (x6_3 : Int) := of_decide_eq_true (by first | (with_reducible assumption) | assumption)
                          have q225 : x6_3 < (l0_6.length : Int) := of_decide_eq_true (by first | (with_reducible assumption) | assumption)
                          obtain ⟨ad225, e225, hx225_0, hx225_1⟩ := at_T87 HR0_6.out x6_3 p225 q225
                          cases e225
                          replace hx225_0 := (HB.out.cell (World.block_lt_of_cell? w _ hx225_0)).trans hx225_0
                          replace hx225_1 := (HB.out.cell (World.block_lt_of_cell? w _ hx225_1)).trans hx225_1
                          replace p225 := eq_true p225
                          replace q225 := eq_true q225
                          have hcz52_0 : wr.cell? ⟨gb222, 0, none⟩ = some (.int .i64 a1_0) := (blk_cell BK222.out 0).trans rfl
                          have hcz52_1 : wr.cell? ⟨gb222, 1, none⟩ = some (.int .i64 a1_1) := (blk_cell BK222.out 1).trans rfl
                          have hcz52_2 : wr.cell? ⟨gb222, 2, none⟩ = some (.int .i64 a1_2) := (blk_cell BK222.out 2).trans rfl
                          have hcz52_3 : wr.cell? ⟨gb222, 3, none⟩ = some (.string a1_3) := (blk_cell BK222.out 3).trans rfl
                          have hcz52_4 : wr.cell? ⟨gb222, 4, none⟩ = some (.string a1_4) := (blk_cell BK222.out 4).trans rfl
                          have hcz52_5 : wr.cell? ⟨gb222, 5, none⟩ = some (.slice A1_5 l1_5.length c1_5) := (blk_cell BK222.out 5).trans rfl
                          have hcz52_6 : wr.cell? ⟨gb222, 6, none⟩ = some (.slice A1_6 l1_6.length c1_6) := (blk_cell BK222.out 6).trans rfl
                          have hfz52_0 := blk_frozen BK222.out 0
                          have hfz52_1 := blk_frozen BK222.out 1
                          have hfz52_2 := blk_frozen BK222.out 2
                          have hfz52_3 := blk_frozen BK222.out 3
                          have hfz52_4 := blk_frozen BK222.out 4
                          have hfz52_5 := blk_frozen BK222.out 5
                          have hfz52_6 := blk_frozen BK222.out 6
                          have p226 : 0 ≤ (x6_3 : Int) := of_decide_eq_true (by first | (with_reducible assumption) | assumption)
                          have q226 : x6_3 < (l1_6.length : Int) := of_decide_eq_true (by first | (with_reducible assumption) | assumption)
                          obtain ⟨ad226, e226, hx226_0, hx226_1⟩ := at_T87 HR1_6.out x6_3 p226 q226
                          cases e226
                          replace hx226_0 := (HB.out.cell (World.block_lt_of_cell? w _ hx226_0)).trans hx226_0
                          replace hx226_1 := (HB.out.cell (World.block_lt_of_cell? w _ hx226_1)).trans hx226_1
                          replace p226 := eq_true p226
                          replace q226 := eq_true q226
                          go_wp2
                          repeat (go_quiet (fail); try go_wp2)
                          go_ret
                          exact ⟨by first | rfl | (simp [errW_none, errW_some] <;> rfl) | (simp [*, errW_none, errW_some] <;> rfl), by repeat (first | (with_reducible first | exact HB.out | apply below_alloc | apply pw_below_drewN | apply below_drew1 | refine below_set ?_ GE221.out | refine below_set ?_ GE222.out) | exact HB.out)⟩
                        · rw [if_neg c49] at H
                          have c49b0 : (!(((rd_T87 l0_6 x6_3).f0) == ((rd_T87 l1_6 x6_3).f0)) || (!(((rd_T87 l0_6 x6_3).f1) == ((rd_T87 l1_6 x6_3).f1)))) = false := by simpa using c49
                          clear c49
                          have H' := Aside0.mk H
                          clear H
                          have hnb53 := NB221_222.out
                          have hnc53 := NB222_221.out
                          have hcz54_0 : wr.cell? ⟨gb221, 0, none⟩ = some (.int .i64 a0_0) := (blk_cell BK221.out 0).trans rfl
                          have hcz54_1 : wr.cell? ⟨gb221, 1, none⟩ = some (.int .i64 a0_1) := (blk_cell BK221.out 1).trans rfl
                          have hcz54_2 : wr.cell? ⟨gb221, 2, none⟩ = some (.int .i64 a0_2) := (blk_cell BK221.out 2).trans rfl
                          have hcz54_3 : wr.cell? ⟨gb221, 3, none⟩ = some (.string a0_3) := (blk_cell BK221.out 3).trans rfl
                          have hcz54_4 : wr.cell? ⟨gb221, 4, none⟩ = some (.string a0_4) := (blk_cell BK221.out 4).trans rfl
                          have hcz54_5 : wr.cell? ⟨gb221, 5, none⟩ = some (.slice A0_5 l0_5.length c0_5) := (blk_cell BK221.out 5).trans rfl
                          have hcz54_6 : wr.cell? ⟨gb221, 6, none⟩ = some (.slice A0_6 l0_6.length c0_6) := (blk_cell BK221.out 6).trans rfl
                          have hfz54_0 := blk_frozen BK221.out 0
                          have hfz54_1 := blk_frozen BK221.out 1
                          have hfz54_2 := blk_frozen BK221.out 2
                          have hfz54_3 := blk_frozen BK221.out 3
                          have hfz54_4 := blk_frozen BK221.out 4
                          have hfz54_5 := blk_frozen BK221.out 5
                          have hfz54_6 := blk_frozen BK221.out 6
                          have p225 : 0 ≤ (x6_3 : Int) := of_decide_eq_true (by first | (with_reducible assumption) | assumption)
                          have q225 : x6_3 < (l0_6.length : Int) := of_decide_eq_true (by first | (with_reducible assumption) | assumption)
                          obtain ⟨ad225, e225, hx225_0, hx225_1⟩ := at_T87 HR0_6.out x6_3 p225 q225
                          cases e225
                          replace hx225_0 := (HB.out.cell (World.block_lt_of_cell? w _ hx225_0)).trans hx225_0
                          replace hx225_1 := (HB.out.cell (World.block_lt_of_cell? w _ hx225_1)).trans hx225_1
                          replace p225 := eq_true p225
                          replace q225 := eq_true q225
                          have hcz55_0 : wr.cell? ⟨gb222, 0, none⟩ = some (.int .i64 a1_0) := (blk_cell BK222.out 0).trans rfl
                          have hcz55_1 : wr.cell? ⟨gb222, 1, none⟩ = some (.int .i64 a1_1) := (blk_cell BK222.out 1).trans rfl
                          have hcz55_2 : wr.cell? ⟨gb222, 2, none⟩ = some (.int .i64 a1_2) := (blk_cell BK222.out 2).trans rfl
                          have hcz55_3 : wr.cell? ⟨gb222, 3, none⟩ = some (.string a1_3) := (blk_cell BK222.out 3).trans rfl
                          have hcz55_4 : wr.cell? ⟨gb222, 4, none⟩ = some (.string a1_4) := (blk_cell BK222.out 4).trans rfl
                          have hcz55_5 : wr.cell? ⟨gb222, 5, none⟩ = some (.slice A1_5 l1_5.length c1_5) := (blk_cell BK222.out 5).trans rfl
                          have hcz55_6 : wr.cell? ⟨gb222, 6, none⟩ = some (.slice A1_6 l1_6.length c1_6) := (blk_cell BK222.out 6).trans rfl
                          have hfz55_0 := blk_frozen BK222.out 0
                          have hfz55_1 := blk_frozen BK222.out 1
                          have hfz55_2 := blk_frozen BK222.out 2
                          have hfz55_3 := blk_frozen BK222.out 3
                          have hfz55_4 := blk_frozen BK222.out 4
                          have hfz55_5 := blk_frozen BK222.out 5
                          have hfz55_6 := blk_frozen BK222.out 6
                          have p226 : 0 ≤ (x6_3 : Int) := of_decide_eq_true (by first | (with_reducible assumption) | assumption)
                          have q226 : x6_3 < (l1_6.length : Int) := of_decide_eq_true (by first | (with_reducible assumption) | assumption)
                          obtain ⟨ad226, e226, hx226_0, hx226_1⟩ := at_T87 HR1_6.out x6_3 p226 q226
                          cases e226
                          replace hx226_0 := (HB.out.cell (World.block_lt_of_cell? w _ hx226_0)).trans hx226_0
                          replace hx226_1 := (HB.out.cell (World.block_lt_of_cell? w _ hx226_1)).trans hx226_1
                          replace p226 := eq_true p226
                          replace q226 := eq_true q226
                          go_wp2
                          repeat (go_quiet (fail); try go_wp2)
                          go_roundg k3
                          case measure => have := HJ2.out; have := HK2.out; have := HK3.out; omega
                          case rel => exact ⟨(wrap64 (x6_3 + 1)), (by first | rfl | (simp; done) | (simp [*]; done)), H', ⟨by have := HJ2.out; have := HK2.out; have := HK3.out; omega⟩, ⟨by (with_reducible repeat (first | refine blk_drewN ?_ _ | refine blk_drew ?_ | refine blk_alloc ?_ _)); exact BK221.out⟩, ⟨by (with_reducible repeat (first | refine blk_drewN ?_ _ | refine blk_drew ?_ | refine blk_alloc ?_ _)); exact BK222.out⟩, ⟨by repeat (first | (with_reducible first | exact HB.out | apply below_alloc | apply pw_below_drewN | apply below_drew1 | refine below_set ?_ GE221.out | refine below_set ?_ GE222.out) | exact HB.out)⟩⟩
                      · rw [if_neg c48] at H
                        exact absurd H (by simp)
                    · rw [if_neg c47] at H
                      exact absurd H (by simp)
                  · rw [if_neg c46] at H
                    have c46b0 : decide (x6_3 < (l0_6.length : Int)) = false := decide_eq_false c46
                    clear c46
                    obtain rfl := Option.some.inj H
                    have hnb56 := NB221_222.out
                    have hnc56 := NB222_221.out
                    have hcz57_0 : wr.cell? ⟨gb221, 0, none⟩ = some (.int .i64 a0_0) := (blk_cell BK221.out 0).trans rfl
                    have hcz57_1 : wr.cell? ⟨gb221, 1, none⟩ = some (.int .i64 a0_1) := (blk_cell BK221.out 1).trans rfl
                    have hcz57_2 : wr.cell? ⟨gb221, 2, none⟩ = some (.int .i64 a0_2) := (blk_cell BK221.out 2).trans rfl
                    have hcz57_3 : wr.cell? ⟨gb221, 3, none⟩ = some (.string a0_3) := (blk_cell BK221.out 3).trans rfl
                    have hcz57_4 : wr.cell? ⟨gb221, 4, none⟩ = some (.string a0_4) := (blk_cell BK221.out 4).trans rfl
                    have hcz57_5 : wr.cell? ⟨gb221, 5, none⟩ = some (.slice A0_5 l0_5.length c0_5) := (blk_cell BK221.out 5).trans rfl
                    have hcz57_6 : wr.cell? ⟨gb221, 6, none⟩ = some (.slice A0_6 l0_6.length c0_6) := (blk_cell BK221.out 6).trans rfl
                    have hfz57_0 := blk_frozen BK221.out 0
                    have hfz57_1 := blk_frozen BK221.out 1
                    have hfz57_2 := blk_frozen BK221.out 2
                    have hfz57_3 := blk_frozen BK221.out 3
                    have hfz57_4 := blk_frozen BK221.out 4
                    have hfz57_5 := blk_frozen BK221.out 5
                    have hfz57_6 := blk_frozen BK221.out 6
                    go_wp2
                    repeat (go_quiet (fail); try go_wp2)
                    go_ret
                    exact ⟨by first | rfl | (simp [errW_none, errW_some] <;> rfl) | (simp [*, errW_none, errW_some] <;> rfl), by repeat (first | (with_reducible first | exact HB.out | apply below_alloc | apply pw_below_drewN | apply below_drew1 | refine below_set ?_ GE221.out | refine below_set ?_ GE222.out) | exact HB.out)⟩

end Go.Proofs.Ytjmkpcnekghmhaa.PAll
end
