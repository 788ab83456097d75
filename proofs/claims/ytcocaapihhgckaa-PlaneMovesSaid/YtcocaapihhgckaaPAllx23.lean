/- Contracts of functions of the program, each with a plain function of the same answers; written by a program of this workplace. -/
import Derived.Test.YtcocaapihhgckaaPAllx0
import Derived.Test.YtcocaapihhgckaaPAllx3
import Derived.Test.YtcocaapihhgckaaPAllx8
import Derived.Test.YtcocaapihhgckaaPAllx12
namespace Go.Proofs.Ytcocaapihhgckaa.PAll
open Go.RowKit Go.Proofs.YtcocaapihhgckaaW.PrintWords Go.Proofs.YtcocaapihhgckaaW.PrintLast Go.Proofs.YtcocaapihhgckaaW.PrintMore
attribute [local go_sem] max2_int min2_int max_two min_two max_three min_three max_four min_four   -- for this text's walks alone
set_option linter.unusedVariables false
set_option linter.unusedSimpArgs false

/-! ### A run of steps in a region that draws, told by its plan (operation, slot): each step takes the plan's first -/
def Plan (is : List (Nat × Nat)) (p : Prop) : Prop := p
theorem plan_ (is : List (Nat × Nat)) {p : Prop} (h : Plan is p) : p := h
theorem planEnd_ {p : Prop} (h : p) : Plan [] p := h
section
variable {P : Program} {ops : Array Oper} {Q : Exit → Act → World → Prop} {md : Region.Mode} {S : World → Prop} {ds : List Nat} {i N : Nat} {is : List (Nat × Nat)} {oi : Oper} {v : Value} {fuel : Nat} {l : Array Bool} {a : Act} {w : World}
theorem planP_ (hi : ops[i]? = some oi) (hN : oi.dst = some N) (hc : anyB md ops l (l.setIfInBounds i true) i = true) (hQ : ∀ c a w, Q (.panic c) (a.put oi.dst v) w → Q (.panic c) a w) (hy : Yields P ops oi v a) {a' : Act} (ha : a.put (some N) v = a')
    (h : Plan is (wpAnyLast P md ops Q S ds fuel (l.setIfInBounds i true) a' w)) : Plan ((i, N) :: is) (wpAnyLast P md ops Q S ds (fuel + 1) l a w) := pure_ _ hi hN hc hQ hy ha h
theorem planT_ (hi : ops[i]? = some oi) (hN : oi.dst = some N) (hc : takeB md ops ds l (l.setIfInBounds i true) i = true) (hQ : ∀ c a w, Q (.panic c) (a.put oi.dst v) w → Q (.panic c) a w) (hy : YieldsIf P ops S oi v a) (hS : S w) {a' : Act} (ha : a.put (some N) v = a')
    (h : Plan is (wpAnyLast P md ops Q S ds fuel (l.setIfInBounds i true) a' w)) : Plan ((i, N) :: is) (wpAnyLast P md ops Q S ds (fuel + 1) l a w) := take_ _ hi hN hc hQ hy hS ha h
end

/-! ### What the walks say over and over -/
theorem mB {p q : Prop} (h : p) (f : p → q := by intro h; repeat (first | (with_reducible first | exact h | apply below_alloc | apply pw_below_drewN | apply below_drew1) | exact h)) : q := f h
theorem mK {p q : Prop} (h : p) (f : p → q := by intro h; repeat (first | (with_reducible first | exact h | apply Kept.alloc | apply Kept.drewN | apply Kept.drew) | exact h)) : q := f h
theorem mR {p q : Prop} (h : p) (f : p → q := by intro h; (with_reducible repeat (first | apply Kd.R_alloc | apply Kd.R_drewN | apply Kd.R_drew)); exact h) : q := f h
theorem mV {p q : Prop} (h : p) (f : p → q := by intro h; (with_reducible repeat (first | apply Kd.V_alloc | apply Kd.V_drewN | apply Kd.V_drew)); exact h) : q := f h
theorem oda {p : Prop} [Decidable p] (h : decide p = true := by first | (with_reducible assumption) | assumption) : p := of_decide_eq_true h
theorem ez {p : Prop} (h : p := by first | rfl | (simp; done) | (simp [*]; done)) : p := h
theorem mBs {p q : Prop} (h : p) (f : p → q := by intro h; repeat (first | (with_reducible first | exact h | apply below_alloc | apply pw_below_drewN | apply below_drew1 | refine below_set ?_ (Aside0.out (by assumption))) | exact h)) : q := f h
theorem mBK {p q : Prop} (h : p) (f : p → q := by intro h; (with_reducible repeat (first | refine blk_drewN ?_ _ | refine blk_drew ?_ | refine blk_alloc ?_ _)); exact h) : q := f h
theorem mC {p q : Prop} (h : p) (f : p → q := by intro h; repeat (first | exact h | (with_reducible refine Kd.C_alloc ?_ _) | (with_reducible refine Kd.C_drewN ?_ _) | (with_reducible refine Kd.C_drew ?_))) : q := f h
theorem mt {p : Prop} (h : p := by (try simp only [List.map_toArray, List.map_cons, List.map_nil]); first | done | rfl | (simp only [List.length_drop, List.length_take]; rfl)) : p := h
theorem mH {r p q : Prop} (hy : r) (H : p) (f : r → p → q := by intro hy H; first | (rw [hy]; with_reducible exact H) | (have H2_ := (Option.bind_some _ _).symm.trans H; rw [hy]; with_reducible exact H2_) | (have H2_ := (Option.bind_some _ _).symm.trans H; with_reducible exact H2_) | with_reducible exact H | (rw [hy]; exact H) | exact H) : q := f hy H

/-! ### Boxes beside boxes, told in few words -/
section
variable {w W w1 : World} {g g' : Nat} {o : Obj}
theorem sB (hb : Below W.heap.size W w1) (h : W.heap[g]? = some o) : Aside0 (w1.heap[g]? = some o) := ⟨blk_below h hb⟩
theorem sW (hg : g = W.heap.size) (h : Below w.heap.size w W) : Aside0 (w.heap.size ≤ g) := ⟨by rw [hg]; exact below_size h⟩
theorem sL (hg : g' = W.heap.size) (h : W.heap[g]? = some o) : Aside0 (g ≠ g') := ⟨by rw [hg]; exact Nat.ne_of_lt (blk_lt h)⟩
theorem sG (hg : g' = W.heap.size) (h : W.heap[g]? = some o) : Aside0 (g' ≠ g) := ⟨by rw [hg]; exact Nat.ne_of_gt (blk_lt h)⟩
theorem bc {t : TypeId} {cs : Array Value} {v : Value} (h : Aside0 (w.heap[g]? = some (.cells cs t (0, 0)))) (i : Nat) (hv : cs[i]? = some v := by rfl) : w.cell? ⟨g, i, none⟩ = some v := (blk_cell h.out i).trans hv
theorem mN {p q r : Prop} (n : p → q → r) (h : q) (hp : p := by first | (simp only [putAll, Act.put, List.setIfInBounds_toArray, List.set_cons_zero, List.set_cons_succ]; done) | (simp only [putAll, Act.put, List.setIfInBounds_toArray, List.set_cons_zero, List.set_cons_succ]; rfl)) : r := n hp h
end

/-! ### prebendlaw02_PlaneMoves: function 7 -/
mutual
def prebendlaw02_PlaneMoves.j0 : Nat → Int → Bool → Int → Int → Int → Int → Int → Int → Int → Int → Option (Bool)
 | 0, _, _, _, _, _, _, _, _, _, _ => none
 | k + 1, x2, x18, x215000, x215001, x215002, x215003, x216000, x216001, x216002, x216003 => if x18 = true then ((prebendlaw02_awake.f k).bind fun t218 => (if t218 = true then ((plane_Meets.f x215000 x215001 x215002 x215003 x216000 x216001 x216002 x216003).bind fun t219 => (some (!t219))) else (some false))) else ((plane_Good.f (wrap64 (x215000 + (wrap64 (x2)))) x215001 x215002 x215003).bind fun t224 => (if t224 = true then ((plane_Good.f (wrap64 (x216000 + (wrap64 (x2)))) x216001 x216002 x216003).bind fun t225 => (if t225 = true then ((plane_Meets.f (wrap64 (x215000 + (wrap64 (x2)))) x215001 x215002 x215003 (wrap64 (x216000 + (wrap64 (x2)))) x216001 x216002 x216003).bind fun t226 => ((plane_Meets.f x215000 x215001 x215002 x215003 x216000 x216001 x216002 x216003).bind fun t227 => (prebendlaw02_PlaneMoves.j1 k (t226 != t227) x215000 x215001 x215002 x215003 (wrap64 (x215000 + x215002)) x215001 x215002 x215003 x215000 (wrap64 (x215001 + x215003)) x215002 x215003))) else (prebendlaw02_PlaneMoves.j1 k false x215000 x215001 x215002 x215003 (wrap64 (x215000 + x215002)) x215001 x215002 x215003 x215000 (wrap64 (x215001 + x215003)) x215002 x215003))) else (prebendlaw02_PlaneMoves.j1 k false x215000 x215001 x215002 x215003 (wrap64 (x215000 + x215002)) x215001 x215002 x215003 x215000 (wrap64 (x215001 + x215003)) x215002 x215003)))
def prebendlaw02_PlaneMoves.j1 : Nat → Bool → Int → Int → Int → Int → Int → Int → Int → Int → Int → Int → Int → Int → Option (Bool)
 | 0, _, _, _, _, _, _, _, _, _, _, _, _, _ => none
 | k + 1, x68, x215000, x215001, x215002, x215003, x223000, x223001, x223002, x223003, x224000, x224001, x224002, x224003 => if x68 = true then (some false) else ((prebendlaw02_awake.f k).bind fun t228 => (if t228 = true then ((plane_Meets.f x215000 x215001 x215002 x215003 x215000 x215001 x215002 x215003).bind fun t229 => (if t229 = true then ((plane_Meets.f x215000 x215001 x215002 x215003 x223000 x223001 x223002 x223003).bind fun t230 => (if t230 = true then (some false) else ((plane_Meets.f x215000 x215001 x215002 x215003 x224000 x224001 x224002 x224003).bind fun t231 => (some (!t231))))) else (some false))) else (some false)))
end
def prebendlaw02_PlaneMoves.f (k : Nat) (a0_0 : Int) (a0_1 : Int) (a0_2 : Int) (a0_3 : Int) (a1_0 : Int) (a1_1 : Int) (a1_2 : Int) (a1_3 : Int) (a2 : Int) : Option (Bool) := (plane_Good.f a0_0 a0_1 a0_2 a0_3).bind fun t216 => (if t216 = true then ((plane_Good.f a1_0 a1_1 a1_2 a1_3).bind fun t217 => (prebendlaw02_PlaneMoves.j0 k a2 (!t217) a0_0 a0_1 a0_2 a0_3 a1_0 a1_1 a1_2 a1_3)) else (prebendlaw02_PlaneMoves.j0 k a2 true a0_0 a0_1 a0_2 a0_3 a1_0 a1_1 a1_2 a1_3))
theorem prebendlaw02_PlaneMoves.mono_l : ∀ k, (∀ y0 y1 y2 y3 y4 y5 y6 y7 y8 y9, LeO (prebendlaw02_PlaneMoves.j0 k y0 y1 y2 y3 y4 y5 y6 y7 y8 y9) (prebendlaw02_PlaneMoves.j0 (k + 1) y0 y1 y2 y3 y4 y5 y6 y7 y8 y9)) ∧ (∀ y0 y1 y2 y3 y4 y5 y6 y7 y8 y9 y10 y11 y12, LeO (prebendlaw02_PlaneMoves.j1 k y0 y1 y2 y3 y4 y5 y6 y7 y8 y9 y10 y11 y12) (prebendlaw02_PlaneMoves.j1 (k + 1) y0 y1 y2 y3 y4 y5 y6 y7 y8 y9 y10 y11 y12))
 | 0 => ⟨fun _ _ _ _ _ _ _ _ _ _ r h => by simp [prebendlaw02_PlaneMoves.j0] at h, fun _ _ _ _ _ _ _ _ _ _ _ _ _ r h => by simp [prebendlaw02_PlaneMoves.j1] at h⟩
 | k + 1 => by
  obtain ⟨ih0, ih1⟩ := prebendlaw02_PlaneMoves.mono_l k
  refine ⟨?_, ?_⟩
  ·intro y0 y1 y2 y3 y4 y5 y6 y7 y8 y9
   unfold prebendlaw02_PlaneMoves.j0
   repeat' first
   | (with_reducible exact ih0 _ _ _ _ _ _ _ _ _ _)
   | (with_reducible exact ih1 _ _ _ _ _ _ _ _ _ _ _ _ _)
   | (with_reducible exact prebendlaw02_awake.mono _)
   | (with_reducible exact LeO.refl _)
   | (with_reducible exact LeO.none _)
   | (with_reducible refine LeO.ite ?_ ?_)
   | (with_reducible refine LeO.bind ?_ (fun _ => ?_))
   | exact ih0 _ _ _ _ _ _ _ _ _ _
   | exact ih1 _ _ _ _ _ _ _ _ _ _ _ _ _
   | exact prebendlaw02_awake.mono _
   | exact LeO.none _
   | refine LeO.ite ?_ ?_
   | refine LeO.bind ?_ (fun _ => ?_)
  ·intro y0 y1 y2 y3 y4 y5 y6 y7 y8 y9 y10 y11 y12
   unfold prebendlaw02_PlaneMoves.j1
   repeat' first
   | (with_reducible exact ih0 _ _ _ _ _ _ _ _ _ _)
   | (with_reducible exact ih1 _ _ _ _ _ _ _ _ _ _ _ _ _)
   | (with_reducible exact prebendlaw02_awake.mono _)
   | (with_reducible exact LeO.refl _)
   | (with_reducible exact LeO.none _)
   | (with_reducible refine LeO.ite ?_ ?_)
   | (with_reducible refine LeO.bind ?_ (fun _ => ?_))
   | exact ih0 _ _ _ _ _ _ _ _ _ _
   | exact ih1 _ _ _ _ _ _ _ _ _ _ _ _ _
   | exact prebendlaw02_awake.mono _
   | exact LeO.none _
   | refine LeO.ite ?_ ?_
   | refine LeO.bind ?_ (fun _ => ?_)
theorem prebendlaw02_PlaneMoves.mono : ∀ a0 a1 a2 a3 a4 a5 a6 a7 a8 k, LeO (prebendlaw02_PlaneMoves.f k a0 a1 a2 a3 a4 a5 a6 a7 a8) (prebendlaw02_PlaneMoves.f (k + 1) a0 a1 a2 a3 a4 a5 a6 a7 a8) := by
 intro a0 a1 a2 a3 a4 a5 a6 a7 a8 k
 obtain ⟨ih0, ih1⟩ := prebendlaw02_PlaneMoves.mono_l k
 unfold prebendlaw02_PlaneMoves.f
 repeat' first
   | (with_reducible exact ih0 _ _ _ _ _ _ _ _ _ _)
   | (with_reducible exact ih1 _ _ _ _ _ _ _ _ _ _ _ _ _)
   | (with_reducible exact prebendlaw02_awake.mono _)
   | (with_reducible exact LeO.refl _)
   | (with_reducible exact LeO.none _)
   | (with_reducible refine LeO.ite ?_ ?_)
   | (with_reducible refine LeO.bind ?_ (fun _ => ?_))
   | exact ih0 _ _ _ _ _ _ _ _ _ _
   | exact ih1 _ _ _ _ _ _ _ _ _ _ _ _ _
   | exact prebendlaw02_awake.mono _
   | exact LeO.none _
   | refine LeO.ite ?_ ?_
   | refine LeO.bind ?_ (fun _ => ?_)
def prebendlaw02_PlaneMoves.T3 : Bool × List (List Nat × List Nat) := (true, [([], []), ([], []), ([], []), ([], []), ([], []), ([], []), ([], []), ([], []), ([4, 0, 0, 4, 5, 6, 7], [0, 4]), ([5, 1, 8, 0, 1, 4, 5, 6, 7, 8], [1, 5]), ([6, 2, 9, 0, 1, 2, 4, 5, 6, 7, 8, 9], [2, 6]), ([7, 3, 10, 0, 1, 2, 3, 4, 5, 6, 7, 8, 9, 10], [3, 7])])
def prebendlaw02_PlaneMoves.B3 : List Nat := [0, 0, 0, 0, 0, 0, 0, 0, 241, 499, 1015, 2047]
theorem prebendlaw02_PlaneMoves.tab3 : rtab .any (opsOf Try.f7 3) = prebendlaw02_PlaneMoves.T3 := by kernel_rfl
theorem prebendlaw02_PlaneMoves.bits3 : waitsOk prebendlaw02_PlaneMoves.T3.2 prebendlaw02_PlaneMoves.B3 = true := by kernel_rfl
def prebendlaw02_PlaneMoves.T8 : Bool × List (List Nat × List Nat) := (true, [([], []), ([0], [0]), ([1, 1], [1]), ([2], [2]), ([3, 2, 2], [2, 3]), ([2, 4], [2, 4]), ([5, 4], [5]), ([6], [6]), ([6], [6]), ([7, 8, 6, 6], [6, 7, 8]), ([6], [6]), ([6], [6]), ([10, 11, 9, 6], [6, 10, 11]), ([9, 12, 6], [6, 9, 12]), ([6, 13], [6, 13])])
def prebendlaw02_PlaneMoves.B8 : List Nat := [0, 1, 3, 7, 15, 31, 63, 127, 127, 511, 127, 127, 4095, 8191, 16383]
theorem prebendlaw02_PlaneMoves.tab8 : rtab .any (opsOf Try.f7 8) = prebendlaw02_PlaneMoves.T8 := by kernel_rfl
theorem prebendlaw02_PlaneMoves.bits8 : waitsOk prebendlaw02_PlaneMoves.T8.2 prebendlaw02_PlaneMoves.B8 = true := by kernel_rfl
set_option maxHeartbeats 60000000 in
set_option maxRecDepth 100000 in
theorem prebendlaw02_PlaneMoves.calls (k : Nat) (a0_0 : Int) (a0_1 : Int) (a0_2 : Int) (a0_3 : Int) (a1_0 : Int) (a1_1 : Int) (a1_2 : Int) (a1_3 : Int) (a2 : Int) (r : Bool) (w : World) (h : prebendlaw02_PlaneMoves.f k a0_0 a0_1 a0_2 a0_3 a1_0 a1_1 a1_2 a1_3 a2 = some r) :
  Calls Try.prog 7 #[.agg #[.int .i64 a0_0, .int .i64 a0_1, .int .i64 a0_2, .int .i64 a0_3], .agg #[.int .i64 a1_0, .int .i64 a1_1, .int .i64 a1_2, .int .i64 a1_3], .int .u16 a2] w fun e w' => e = .returned (.bool r) ∧ Below w.heap.size w w' := by
 have hu23 := Try.underlying23
 have HB := Aside0.mk (Below.refl w.heap.size w)
 have H : ((plane_Good.f a0_0 a0_1 a0_2 a0_3).bind fun t216 => (if t216 = true then ((plane_Good.f a1_0 a1_1 a1_2 a1_3).bind fun t217 => (prebendlaw02_PlaneMoves.j0 k a2 (!t217) a0_0 a0_1 a0_2 a0_3 a1_0 a1_1 a1_2 a1_3)) else (prebendlaw02_PlaneMoves.j0 k a2 true a0_0 a0_1 a0_2 a0_3 a1_0 a1_1 a1_2 a1_3))) = some r := h
 clear h
 have HC4 := Aside0.mk H
 clear H
 go_enter Try.func7, Try.ntmps7
 go_upto_region 1 with (first | ((with_reducible refine gate_dst (N := 3) rfl ?_); refine box_event ?hg (N := 3) ?hd (cs := #[.int .i64 a0_0, .int .i64 a0_1, .int .i64 a0_2, .int .i64 a0_3]) (t := 23) ?hr ?_; (case hd => rfl); (case hg => rfl); (case hr => first | (go_simp; done) | (go_simp; rfl)); intro gb214 hg w5 hbox hb; have n0_ := Aside0.mk (below_step (mB HB.out) hb); have n1_ := Aside0.mk (hbox); have n2_ := Aside0.mk ((by rw [hg]; exact (below_size (mB HB.out)) : w.heap.size ≤ gb214)); have n3_ := Aside0.mk ((by rw [hg]; exact (below_size (mB HB.out)) : w.heap.size ≤ gb214)); clear HB; have HB := n0_; have BK214 := n1_; have GW214 := n2_; have GE214 := n3_; clear n0_ n1_ n2_ n3_; clear hb hbox hg) | ((with_reducible refine gate_dst (N := 4) rfl ?_); refine box_event ?hg (N := 4) ?hd (cs := #[.int .i64 a1_0, .int .i64 a1_1, .int .i64 a1_2, .int .i64 a1_3]) (t := 23) ?hr ?_; (case hd => rfl); (case hg => rfl); (case hr => first | (go_simp; done) | (go_simp; rfl)); intro gb215 hg w6 hbox hb; have n0_ := sB hb (mBK BK214.out); have n1_ := Aside0.mk (below_step (mBs HB.out) hb); have n2_ := Aside0.mk (hbox); have n3_ := Aside0.mk ((by rw [hg]; exact (below_size (mBs HB.out)) : w.heap.size ≤ gb215)); have n4_ := Aside0.mk ((by rw [hg]; exact (below_size (mBs HB.out)) : w.heap.size ≤ gb215)); have n5_ := Aside0.mk ((by rw [hg]; exact Nat.ne_of_lt (blk_lt (g := gb214) (o := .cells #[.int .i64 a0_0, .int .i64 a0_1, .int .i64 a0_2, .int .i64 a0_3] 23 (0, 0)) (mBK BK214.out)) : gb214 ≠ gb215)); have n6_ := Aside0.mk ((by rw [hg]; exact Nat.ne_of_gt (blk_lt (g := gb214) (o := .cells #[.int .i64 a0_0, .int .i64 a0_1, .int .i64 a0_2, .int .i64 a0_3] 23 (0, 0)) (mBK BK214.out)) : gb215 ≠ gb214)); clear BK214; clear HB; have BK214 := n0_; have HB := n1_; have BK215 := n2_; have GW215 := n3_; have GE215 := n4_; have NB214_215 := n5_; have NB215_214 := n6_; clear n0_ n1_ n2_ n3_ n4_ n5_ n6_; clear hb hbox hg))
 (try simp only [Act.put, List.setIfInBounds_toArray, List.set_cons_zero, List.set_cons_succ])
 go_cut [18] (fun v18 wc => ∃ (kq : Nat) (x18_3 : Bool), v18 = .bool x18_3 ∧ Aside0 (prebendlaw02_PlaneMoves.j0 kq a2 x18_3 a0_0 a0_1 a0_2 a0_3 a1_0 a1_1 a1_2 a1_3 = some r) ∧ Aside0 (kq ≤ k) ∧ Aside0 (wc.heap[gb214]? = some (.cells #[.int .i64 a0_0, .int .i64 a0_1, .int .i64 a0_2, .int .i64 a0_3] 23 (0, 0))) ∧ Aside0 (wc.heap[gb215]? = some (.cells #[.int .i64 a1_0, .int .i64 a1_1, .int .i64 a1_2, .int .i64 a1_3] 23 (0, 0))) ∧ Aside0 (Below w.heap.size w wc))
 case first =>
  have H := HC4.out
  clear HC4
  replace H := Option.bind_eq_some_iff.mp H
  obtain ⟨t216, A70, H⟩ := H
  replace H : (if t216 = true then ((plane_Good.f a1_0 a1_1 a1_2 a1_3).bind fun t217 => (prebendlaw02_PlaneMoves.j0 k a2 (!t217) a0_0 a0_1 a0_2 a0_3 a1_0 a1_1 a1_2 a1_3)) else (prebendlaw02_PlaneMoves.j0 k a2 true a0_0 a0_1 a0_2 a0_3 a1_0 a1_1 a1_2 a1_3)) = some r := H
  have A7 := Aside0.mk A70
  clear A70
  by_cases c8 : t216 = true
  ·subst c8
   have H1 : ((plane_Good.f a1_0 a1_1 a1_2 a1_3).bind fun t217 => (prebendlaw02_PlaneMoves.j0 k a2 (!t217) a0_0 a0_1 a0_2 a0_3 a1_0 a1_1 a1_2 a1_3)) = some r := by rw [if_pos rfl] at H; exact H
   clear H
   have H := H1
   clear H1
   replace H := Option.bind_eq_some_iff.mp H
   obtain ⟨t217, A90, H⟩ := H
   replace H : (prebendlaw02_PlaneMoves.j0 k a2 (!t217) a0_0 a0_1 a0_2 a0_3 a1_0 a1_1 a1_2 a1_3) = some r := H
   have A9 := Aside0.mk A90
   clear A90
   have H' := Aside0.mk H
   clear H
   have hnb10 := NB214_215.out
   have hnc10 := NB215_214.out
   have hcz11_0 : w6.cell? ⟨gb214, 0, none⟩ = some (.int .i64 a0_0) := bc BK214 0
   have hcz11_1 : w6.cell? ⟨gb214, 1, none⟩ = some (.int .i64 a0_1) := bc BK214 1
   have hcz11_2 : w6.cell? ⟨gb214, 2, none⟩ = some (.int .i64 a0_2) := bc BK214 2
   have hcz11_3 : w6.cell? ⟨gb214, 3, none⟩ = some (.int .i64 a0_3) := bc BK214 3
   have hfz11_0 := blk_frozen BK214.out 0
   have hfz11_1 := blk_frozen BK214.out 1
   have hfz11_2 := blk_frozen BK214.out 2
   have hfz11_3 := blk_frozen BK214.out 3
   go_wp2_with (first | ((with_reducible refine gate_callee (f := 9) rfl ?_); refine goesL_ (some 12) rfl rfl Try.func9 (by kernel_rfl) rfl #[.agg #[.int .i64 a0_0, .int .i64 a0_1, .int .i64 a0_2, .int .i64 a0_3]] rfl mt ?_; (with_reducible refine (plane_Good.calls a0_0 a0_1 a0_2 a0_3 true _ A7.out).mono ?_); rintro e w12 ⟨rfl, hb⟩; refine ⟨_, rfl, ?_⟩; have n0_ := sB hb (mBK BK214.out); have n1_ := sB hb (mBK BK215.out); have n2_ := Aside0.mk (below_step (mBs HB.out) hb); clear BK214; clear BK215; clear HB; have BK214 := n0_; have BK215 := n1_; have HB := n2_; clear n0_ n1_ n2_; (try clear hb); (try clear hb2); (try clear hk); (try clear hi); have hcz13_0 : w12.cell? ⟨gb215, 0, none⟩ = some (.int .i64 a1_0) := bc BK215 0; have hcz13_1 : w12.cell? ⟨gb215, 1, none⟩ = some (.int .i64 a1_1) := bc BK215 1; have hcz13_2 : w12.cell? ⟨gb215, 2, none⟩ = some (.int .i64 a1_2) := bc BK215 2; have hcz13_3 : w12.cell? ⟨gb215, 3, none⟩ = some (.int .i64 a1_3) := bc BK215 3; have hfz13_0 := blk_frozen BK215.out 0; have hfz13_1 := blk_frozen BK215.out 1; have hfz13_2 := blk_frozen BK215.out 2; have hfz13_3 := blk_frozen BK215.out 3) | (go_at_call 9; (with_reducible refine (plane_Good.calls a1_0 a1_1 a1_2 a1_3 t217 _ A9.out).mono ?_); rintro e w14 ⟨rfl, hb⟩; have n0_ := sB hb (mBK BK214.out); have n1_ := sB hb (mBK BK215.out); have n2_ := Aside0.mk (below_step (mBs HB.out) hb); clear BK214; clear BK215; clear HB; have BK214 := n0_; have BK215 := n1_; have HB := n2_; clear n0_ n1_ n2_; (try clear hb); (try clear hb2); (try clear hk); (try clear hi)))
   go_meet
   case rel => exact ⟨_, (!t217), ez, H', ⟨by first | omega | exact Nat.le_refl _⟩, ⟨mBK BK214.out⟩, ⟨mBK BK215.out⟩, ⟨mBs HB.out⟩⟩
  ·replace c8 := Bool.eq_false_iff.mpr c8
   subst c8
   have H1 : (prebendlaw02_PlaneMoves.j0 k a2 true a0_0 a0_1 a0_2 a0_3 a1_0 a1_1 a1_2 a1_3) = some r := by rw [if_neg (show ¬ (false = true) by decide)] at H; exact H
   clear H
   have H := H1
   clear H1
   have H' := Aside0.mk H
   clear H
   have hnb15 := NB214_215.out
   have hnc15 := NB215_214.out
   have hcz16_0 : w6.cell? ⟨gb214, 0, none⟩ = some (.int .i64 a0_0) := bc BK214 0
   have hcz16_1 : w6.cell? ⟨gb214, 1, none⟩ = some (.int .i64 a0_1) := bc BK214 1
   have hcz16_2 : w6.cell? ⟨gb214, 2, none⟩ = some (.int .i64 a0_2) := bc BK214 2
   have hcz16_3 : w6.cell? ⟨gb214, 3, none⟩ = some (.int .i64 a0_3) := bc BK214 3
   have hfz16_0 := blk_frozen BK214.out 0
   have hfz16_1 := blk_frozen BK214.out 1
   have hfz16_2 := blk_frozen BK214.out 2
   have hfz16_3 := blk_frozen BK214.out 3
   go_wp2_with (first | ((with_reducible refine gate_callee (f := 9) rfl ?_); refine goesL_ (some 12) rfl rfl Try.func9 (by kernel_rfl) rfl #[.agg #[.int .i64 a0_0, .int .i64 a0_1, .int .i64 a0_2, .int .i64 a0_3]] rfl mt ?_; (with_reducible refine (plane_Good.calls a0_0 a0_1 a0_2 a0_3 false _ A7.out).mono ?_); rintro e w17 ⟨rfl, hb⟩; refine ⟨_, rfl, ?_⟩; have n0_ := sB hb (mBK BK214.out); have n1_ := sB hb (mBK BK215.out); have n2_ := Aside0.mk (below_step (mBs HB.out) hb); clear BK214; clear BK215; clear HB; have BK214 := n0_; have BK215 := n1_; have HB := n2_; clear n0_ n1_ n2_; (try clear hb); (try clear hb2); (try clear hk); (try clear hi)))
   go_meet
   case rel => exact ⟨_, (true), ez, H', ⟨by first | omega | exact Nat.le_refl _⟩, ⟨mBK BK214.out⟩, ⟨mBK BK215.out⟩, ⟨mBs HB.out⟩⟩
 case rest =>
  clear HC4
  (try clear c1); (try clear p2); (try clear c7); (try clear c8); (try clear c9); (try clear c10); (try clear c15); (try clear hcz11_0); (try clear hcz11_1); (try clear hcz11_2); (try clear hcz11_3); (try clear hcz13_0); (try clear hcz13_1); (try clear hcz13_2); (try clear hcz13_3); (try clear hcz16_0); (try clear hcz16_1); (try clear hcz16_2); (try clear hcz16_3); (try clear hfz11_0); (try clear hfz11_1); (try clear hfz11_2); (try clear hfz11_3); (try clear hfz13_0); (try clear hfz13_1); (try clear hfz13_2); (try clear hfz13_3); (try clear hfz16_0); (try clear hfz16_1); (try clear hfz16_2); (try clear hfz16_3)
  obtain ⟨kq, x18_3, rfl, HA, HJ3, BK214, BK215, HB⟩ := hcut
  cases kq with
  | zero => exact absurd HA.out (by simp [prebendlaw02_PlaneMoves.j0])
  | succ kj3 =>
   have H := HA.out
   clear HA
   simp only [prebendlaw02_PlaneMoves.j0] at H
   by_cases c18 : x18_3 = true
   ·subst c18
    have H1 : ((prebendlaw02_awake.f kj3).bind fun t218 => (if t218 = true then ((plane_Meets.f a0_0 a0_1 a0_2 a0_3 a1_0 a1_1 a1_2 a1_3).bind fun t219 => (some (!t219))) else (some false))) = some r := by rw [if_pos rfl] at H; exact H
    clear H
    have H := H1
    clear H1
    replace H := Option.bind_eq_some_iff.mp H
    obtain ⟨t218, A190, H⟩ := H
    replace H : (if t218 = true then ((plane_Meets.f a0_0 a0_1 a0_2 a0_3 a1_0 a1_1 a1_2 a1_3).bind fun t219 => (some (!t219))) else (some false)) = some r := H
    have A19 := Aside0.mk A190
    clear A190
    by_cases c20 : t218 = true
    ·subst c20
     have H1 : ((plane_Meets.f a0_0 a0_1 a0_2 a0_3 a1_0 a1_1 a1_2 a1_3).bind fun t219 => (some (!t219))) = some r := by rw [if_pos rfl] at H; exact H
     clear H
     have H := H1
     clear H1
     replace H := Option.bind_eq_some_iff.mp H
     obtain ⟨t219, A210, H⟩ := H
     replace H : (some (!t219)) = some r := H
     have A21 := Aside0.mk A210
     clear A210
     obtain rfl := Option.some.inj H
     go_wp2_with (first | ((with_reducible refine gate_callee (f := 8) rfl ?_); refine goesL_ (some 19) rfl rfl Try.func8 (by kernel_rfl) rfl #[] rfl mt ?_; (with_reducible refine (prebendlaw02_awake.calls kj3  true _ A19.out).mono ?_); rintro e w22 ⟨rfl, hb⟩; refine ⟨_, rfl, ?_⟩; have n0_ := sB hb (mBK BK214.out); have n1_ := sB hb (mBK BK215.out); have n2_ := Aside0.mk (below_step (mBs HB.out) hb); clear BK214; clear BK215; clear HB; have BK214 := n0_; have BK215 := n1_; have HB := n2_; clear n0_ n1_ n2_; (try clear hb); (try clear hb2); (try clear hk); (try clear hi); have hnb23 := NB214_215.out; have hnc23 := NB215_214.out; have hcz24_0 : w22.cell? ⟨gb214, 0, none⟩ = some (.int .i64 a0_0) := bc BK214 0; have hcz24_1 : w22.cell? ⟨gb214, 1, none⟩ = some (.int .i64 a0_1) := bc BK214 1; have hcz24_2 : w22.cell? ⟨gb214, 2, none⟩ = some (.int .i64 a0_2) := bc BK214 2; have hcz24_3 : w22.cell? ⟨gb214, 3, none⟩ = some (.int .i64 a0_3) := bc BK214 3; have hfz24_0 := blk_frozen BK214.out 0; have hfz24_1 := blk_frozen BK214.out 1; have hfz24_2 := blk_frozen BK214.out 2; have hfz24_3 := blk_frozen BK214.out 3; have hcz25_0 : w22.cell? ⟨gb215, 0, none⟩ = some (.int .i64 a1_0) := bc BK215 0; have hcz25_1 : w22.cell? ⟨gb215, 1, none⟩ = some (.int .i64 a1_1) := bc BK215 1; have hcz25_2 : w22.cell? ⟨gb215, 2, none⟩ = some (.int .i64 a1_2) := bc BK215 2; have hcz25_3 : w22.cell? ⟨gb215, 3, none⟩ = some (.int .i64 a1_3) := bc BK215 3; have hfz25_0 := blk_frozen BK215.out 0; have hfz25_1 := blk_frozen BK215.out 1; have hfz25_2 := blk_frozen BK215.out 2; have hfz25_3 := blk_frozen BK215.out 3) | (go_at_call 13; (with_reducible refine (plane_Meets.calls a0_0 a0_1 a0_2 a0_3 a1_0 a1_1 a1_2 a1_3 t219 _ A21.out).mono ?_); rintro e w26 ⟨rfl, hb⟩; have n0_ := sB hb (mBK BK214.out); have n1_ := sB hb (mBK BK215.out); have n2_ := Aside0.mk (below_step (mBs HB.out) hb); clear BK214; clear BK215; clear HB; have BK214 := n0_; have BK215 := n1_; have HB := n2_; clear n0_ n1_ n2_; (try clear hb); (try clear hb2); (try clear hk); (try clear hi)))
     go_ret
     exact ⟨by first | rfl | (simp [errW_none, errW_some] <;> rfl) | (simp [*, errW_none, errW_some] <;> rfl), by repeat (first | (with_reducible first | exact HB.out | apply below_alloc | apply pw_below_drewN | apply below_drew1 | refine below_set ?_ GE214.out | refine below_set ?_ GE215.out) | exact HB.out)⟩
    ·replace c20 := Bool.eq_false_iff.mpr c20
     subst c20
     have H1 : (some false) = some r := by rw [if_neg (show ¬ (false = true) by decide)] at H; exact H
     clear H
     have H := H1
     clear H1
     obtain rfl := Option.some.inj H
     go_wp2_with (first | ((with_reducible refine gate_callee (f := 8) rfl ?_); refine goesL_ (some 19) rfl rfl Try.func8 (by kernel_rfl) rfl #[] rfl mt ?_; (with_reducible refine (prebendlaw02_awake.calls kj3  false _ A19.out).mono ?_); rintro e w27 ⟨rfl, hb⟩; refine ⟨_, rfl, ?_⟩; have n0_ := sB hb (mBK BK214.out); have n1_ := sB hb (mBK BK215.out); have n2_ := Aside0.mk (below_step (mBs HB.out) hb); clear BK214; clear BK215; clear HB; have BK214 := n0_; have BK215 := n1_; have HB := n2_; clear n0_ n1_ n2_; (try clear hb); (try clear hb2); (try clear hk); (try clear hi)))
     go_ret
     exact ⟨by first | rfl | (simp [errW_none, errW_some] <;> rfl) | (simp [*, errW_none, errW_some] <;> rfl), by repeat (first | (with_reducible first | exact HB.out | apply below_alloc | apply pw_below_drewN | apply below_drew1 | refine below_set ?_ GE214.out | refine below_set ?_ GE215.out) | exact HB.out)⟩
   ·replace c18 := Bool.eq_false_iff.mpr c18
    subst c18
    have H1 : ((plane_Good.f (wrap64 (a0_0 + (wrap64 (a2)))) a0_1 a0_2 a0_3).bind fun t224 => (if t224 = true then ((plane_Good.f (wrap64 (a1_0 + (wrap64 (a2)))) a1_1 a1_2 a1_3).bind fun t225 => (if t225 = true then ((plane_Meets.f (wrap64 (a0_0 + (wrap64 (a2)))) a0_1 a0_2 a0_3 (wrap64 (a1_0 + (wrap64 (a2)))) a1_1 a1_2 a1_3).bind fun t226 => ((plane_Meets.f a0_0 a0_1 a0_2 a0_3 a1_0 a1_1 a1_2 a1_3).bind fun t227 => (prebendlaw02_PlaneMoves.j1 kj3 (t226 != t227) a0_0 a0_1 a0_2 a0_3 (wrap64 (a0_0 + a0_2)) a0_1 a0_2 a0_3 a0_0 (wrap64 (a0_1 + a0_3)) a0_2 a0_3))) else (prebendlaw02_PlaneMoves.j1 kj3 false a0_0 a0_1 a0_2 a0_3 (wrap64 (a0_0 + a0_2)) a0_1 a0_2 a0_3 a0_0 (wrap64 (a0_1 + a0_3)) a0_2 a0_3))) else (prebendlaw02_PlaneMoves.j1 kj3 false a0_0 a0_1 a0_2 a0_3 (wrap64 (a0_0 + a0_2)) a0_1 a0_2 a0_3 a0_0 (wrap64 (a0_1 + a0_3)) a0_2 a0_3))) = some r := by rw [if_neg (show ¬ (false = true) by decide)] at H; exact H
    clear H
    have H := H1
    clear H1
    have HC28 := Aside0.mk H
    clear H
    try go_wp2
    replace BK214 := Aside0.mk (blk_drew BK214.out)
    replace BK215 := Aside0.mk (blk_drew BK215.out)
    replace HB := Aside0.mk (below_drew1 HB.out)
    refine start_ (n := 12) (S := fun w' => w'.cell? ⟨gb214, 0, none⟩ = some (.int .i64 a0_0) ∧ w'.cell? ⟨gb214, 1, none⟩ = some (.int .i64 a0_1) ∧ w'.cell? ⟨gb214, 2, none⟩ = some (.int .i64 a0_2) ∧ w'.cell? ⟨gb214, 3, none⟩ = some (.int .i64 a0_3) ∧ w'.cell? ⟨gb215, 0, none⟩ = some (.int .i64 a1_0) ∧ w'.cell? ⟨gb215, 1, none⟩ = some (.int .i64 a1_1) ∧ w'.cell? ⟨gb215, 2, none⟩ = some (.int .i64 a1_2) ∧ w'.cell? ⟨gb215, 3, none⟩ = some (.int .i64 a1_3)) (ds := []) #[false, false, false, false, false, false, false, false, false, false, false, false] (by kernel_rfl) rfl rfl ⟨bc BK214 0, bc BK214 1, bc BK214 2, bc BK214 3, bc BK215 0, bc BK215 1, bc BK215 2, bc BK215 3⟩ (fun hHeld => ?_); refine with_tabW prebendlaw02_PlaneMoves.tab3 prebendlaw02_PlaneMoves.bits3 (fun HT_ HW_ => ?_)
    generalize wc.drew = w29 at BK214 BK215 HB hHeld ⊢
    refine plan_ [(0, 26), (1, 27), (2, 28), (3, 29)] ?_
    iterate 4 (refine planT_ (v := ?_) (a' := ?_) rfl rfl (take_ofW HT_.out HW_.out (by kernel_rfl)) (fun _ _ _ h => h) (Or.inl ⟨by rfl, ?_⟩) hHeld ?_ ?_; rotate_left; (rintro w' ⟨s0, s1, s2, s3, s4, s5, s6, s7⟩; go_simp; with_reducible rfl); rotate_left; (simp only [Act.put, List.setIfInBounds_toArray, List.set_cons_zero, List.set_cons_succ, i64_w, i32_w]; rfl))
    refine planEnd_ ?_
    refine join_ (σ := Nat × Nat × Nat × Nat) 4 #[true, true, true, true, true, true, true, true, false, false, false, false] (fun s_ => [(7, .pointer (some ⟨s_.1, 0, none⟩)), (8, .pointer (some ⟨s_.2.1, 0, none⟩)), (9, .pointer (some ⟨s_.2.2.1, 0, none⟩)), (10, .pointer (some ⟨s_.2.2.2, 0, none⟩))]) (fun s_ w' => (w'.cell? ⟨gb214, 0, none⟩ = some (.int .i64 a0_0) ∧ w'.cell? ⟨gb214, 1, none⟩ = some (.int .i64 a0_1) ∧ w'.cell? ⟨gb214, 2, none⟩ = some (.int .i64 a0_2) ∧ w'.cell? ⟨gb214, 3, none⟩ = some (.int .i64 a0_3) ∧ w'.cell? ⟨gb215, 0, none⟩ = some (.int .i64 a1_0) ∧ w'.cell? ⟨gb215, 1, none⟩ = some (.int .i64 a1_1) ∧ w'.cell? ⟨gb215, 2, none⟩ = some (.int .i64 a1_2) ∧ w'.cell? ⟨gb215, 3, none⟩ = some (.int .i64 a1_3)) ∧ (w'.heap[gb214]? = some (.cells #[.int .i64 a0_0, .int .i64 a0_1, .int .i64 a0_2, .int .i64 a0_3] 23 (0, 0))) ∧ (w'.heap[gb215]? = some (.cells #[.int .i64 a1_0, .int .i64 a1_1, .int .i64 a1_2, .int .i64 a1_3] 23 (0, 0))) ∧ (w'.heap[s_.1]? = some (.cells #[.int .i64 0, .int .i64 0, .int .i64 0, .int .i64 0] 23 (0, 0))) ∧ (w'.heap[s_.2.1]? = some (.cells #[.int .i64 0, .int .i64 0, .int .i64 0, .int .i64 0] 23 (0, 0))) ∧ (w'.heap[s_.2.2.1]? = some (.cells #[.int .i64 0, .int .i64 0, .int .i64 0, .int .i64 0] 23 (0, 0))) ∧ (w'.heap[s_.2.2.2]? = some (.cells #[.int .i64 0, .int .i64 0, .int .i64 0, .int .i64 0] 23 (0, 0))) ∧ (w.heap.size ≤ s_.1) ∧ (w.heap.size ≤ s_.1) ∧ (gb214 ≠ s_.1) ∧ (s_.1 ≠ gb214) ∧ (gb215 ≠ s_.1) ∧ (s_.1 ≠ gb215) ∧ (s_.2.1 ≠ s_.1) ∧ (s_.1 ≠ s_.2.1) ∧ (s_.2.2.1 ≠ s_.1) ∧ (s_.1 ≠ s_.2.2.1) ∧ (s_.2.2.2 ≠ s_.1) ∧ (s_.1 ≠ s_.2.2.2) ∧ (w.heap.size ≤ s_.2.1) ∧ (w.heap.size ≤ s_.2.1) ∧ (gb214 ≠ s_.2.1) ∧ (s_.2.1 ≠ gb214) ∧ (gb215 ≠ s_.2.1) ∧ (s_.2.1 ≠ gb215) ∧ (s_.2.2.1 ≠ s_.2.1) ∧ (s_.2.1 ≠ s_.2.2.1) ∧ (s_.2.2.2 ≠ s_.2.1) ∧ (s_.2.1 ≠ s_.2.2.2) ∧ (w.heap.size ≤ s_.2.2.1) ∧ (w.heap.size ≤ s_.2.2.1) ∧ (gb214 ≠ s_.2.2.1) ∧ (s_.2.2.1 ≠ gb214) ∧ (gb215 ≠ s_.2.2.1) ∧ (s_.2.2.1 ≠ gb215) ∧ (s_.2.2.2 ≠ s_.2.2.1) ∧ (s_.2.2.1 ≠ s_.2.2.2) ∧ (w.heap.size ≤ s_.2.2.2) ∧ (w.heap.size ≤ s_.2.2.2) ∧ (gb214 ≠ s_.2.2.2) ∧ (s_.2.2.2 ≠ gb214) ∧ (gb215 ≠ s_.2.2.2) ∧ (s_.2.2.2 ≠ gb215) ∧ (Below w.heap.size w w')) ?_ ?_
    rotate_left
    ·intro hJ4_5_6_7
     refine join_ (σ := Nat × Nat × Nat) 5 #[true, true, true, true, true, true, true, false, false, false, false, false] (fun s_ => [(7, .pointer (some ⟨s_.1, 0, none⟩)), (8, .pointer (some ⟨s_.2.1, 0, none⟩)), (9, .pointer (some ⟨s_.2.2, 0, none⟩))]) (fun s_ w' => (w'.cell? ⟨gb214, 0, none⟩ = some (.int .i64 a0_0) ∧ w'.cell? ⟨gb214, 1, none⟩ = some (.int .i64 a0_1) ∧ w'.cell? ⟨gb214, 2, none⟩ = some (.int .i64 a0_2) ∧ w'.cell? ⟨gb214, 3, none⟩ = some (.int .i64 a0_3) ∧ w'.cell? ⟨gb215, 0, none⟩ = some (.int .i64 a1_0) ∧ w'.cell? ⟨gb215, 1, none⟩ = some (.int .i64 a1_1) ∧ w'.cell? ⟨gb215, 2, none⟩ = some (.int .i64 a1_2) ∧ w'.cell? ⟨gb215, 3, none⟩ = some (.int .i64 a1_3)) ∧ (w'.heap[gb214]? = some (.cells #[.int .i64 a0_0, .int .i64 a0_1, .int .i64 a0_2, .int .i64 a0_3] 23 (0, 0))) ∧ (w'.heap[gb215]? = some (.cells #[.int .i64 a1_0, .int .i64 a1_1, .int .i64 a1_2, .int .i64 a1_3] 23 (0, 0))) ∧ (w'.heap[s_.1]? = some (.cells #[.int .i64 0, .int .i64 0, .int .i64 0, .int .i64 0] 23 (0, 0))) ∧ (w'.heap[s_.2.1]? = some (.cells #[.int .i64 0, .int .i64 0, .int .i64 0, .int .i64 0] 23 (0, 0))) ∧ (w'.heap[s_.2.2]? = some (.cells #[.int .i64 0, .int .i64 0, .int .i64 0, .int .i64 0] 23 (0, 0))) ∧ (w.heap.size ≤ s_.1) ∧ (w.heap.size ≤ s_.1) ∧ (gb214 ≠ s_.1) ∧ (s_.1 ≠ gb214) ∧ (gb215 ≠ s_.1) ∧ (s_.1 ≠ gb215) ∧ (s_.2.1 ≠ s_.1) ∧ (s_.1 ≠ s_.2.1) ∧ (s_.2.2 ≠ s_.1) ∧ (s_.1 ≠ s_.2.2) ∧ (w.heap.size ≤ s_.2.1) ∧ (w.heap.size ≤ s_.2.1) ∧ (gb214 ≠ s_.2.1) ∧ (s_.2.1 ≠ gb214) ∧ (gb215 ≠ s_.2.1) ∧ (s_.2.1 ≠ gb215) ∧ (s_.2.2 ≠ s_.2.1) ∧ (s_.2.1 ≠ s_.2.2) ∧ (w.heap.size ≤ s_.2.2) ∧ (w.heap.size ≤ s_.2.2) ∧ (gb214 ≠ s_.2.2) ∧ (s_.2.2 ≠ gb214) ∧ (gb215 ≠ s_.2.2) ∧ (s_.2.2 ≠ gb215) ∧ (Below w.heap.size w w')) ?_ ?_
     rotate_left
     ·intro hJ4_5_6
      refine join_ (σ := Nat × Nat × Nat) 5 #[true, true, true, true, true, true, false, true, false, false, false, false] (fun s_ => [(7, .pointer (some ⟨s_.1, 0, none⟩)), (8, .pointer (some ⟨s_.2.1, 0, none⟩)), (10, .pointer (some ⟨s_.2.2, 0, none⟩))]) (fun s_ w' => (w'.cell? ⟨gb214, 0, none⟩ = some (.int .i64 a0_0) ∧ w'.cell? ⟨gb214, 1, none⟩ = some (.int .i64 a0_1) ∧ w'.cell? ⟨gb214, 2, none⟩ = some (.int .i64 a0_2) ∧ w'.cell? ⟨gb214, 3, none⟩ = some (.int .i64 a0_3) ∧ w'.cell? ⟨gb215, 0, none⟩ = some (.int .i64 a1_0) ∧ w'.cell? ⟨gb215, 1, none⟩ = some (.int .i64 a1_1) ∧ w'.cell? ⟨gb215, 2, none⟩ = some (.int .i64 a1_2) ∧ w'.cell? ⟨gb215, 3, none⟩ = some (.int .i64 a1_3)) ∧ (w'.heap[gb214]? = some (.cells #[.int .i64 a0_0, .int .i64 a0_1, .int .i64 a0_2, .int .i64 a0_3] 23 (0, 0))) ∧ (w'.heap[gb215]? = some (.cells #[.int .i64 a1_0, .int .i64 a1_1, .int .i64 a1_2, .int .i64 a1_3] 23 (0, 0))) ∧ (w'.heap[s_.1]? = some (.cells #[.int .i64 0, .int .i64 0, .int .i64 0, .int .i64 0] 23 (0, 0))) ∧ (w'.heap[s_.2.1]? = some (.cells #[.int .i64 0, .int .i64 0, .int .i64 0, .int .i64 0] 23 (0, 0))) ∧ (w'.heap[s_.2.2]? = some (.cells #[.int .i64 0, .int .i64 0, .int .i64 0, .int .i64 0] 23 (0, 0))) ∧ (w.heap.size ≤ s_.1) ∧ (w.heap.size ≤ s_.1) ∧ (gb214 ≠ s_.1) ∧ (s_.1 ≠ gb214) ∧ (gb215 ≠ s_.1) ∧ (s_.1 ≠ gb215) ∧ (s_.2.1 ≠ s_.1) ∧ (s_.1 ≠ s_.2.1) ∧ (s_.2.2 ≠ s_.1) ∧ (s_.1 ≠ s_.2.2) ∧ (w.heap.size ≤ s_.2.1) ∧ (w.heap.size ≤ s_.2.1) ∧ (gb214 ≠ s_.2.1) ∧ (s_.2.1 ≠ gb214) ∧ (gb215 ≠ s_.2.1) ∧ (s_.2.1 ≠ gb215) ∧ (s_.2.2 ≠ s_.2.1) ∧ (s_.2.1 ≠ s_.2.2) ∧ (w.heap.size ≤ s_.2.2) ∧ (w.heap.size ≤ s_.2.2) ∧ (gb214 ≠ s_.2.2) ∧ (s_.2.2 ≠ gb214) ∧ (gb215 ≠ s_.2.2) ∧ (s_.2.2 ≠ gb215) ∧ (Below w.heap.size w w')) ?_ ?_
      rotate_left
      ·intro hJ4_5_7
       refine join_ (σ := Nat × Nat × Nat) 5 #[true, true, true, true, true, false, true, true, false, false, false, false] (fun s_ => [(7, .pointer (some ⟨s_.1, 0, none⟩)), (9, .pointer (some ⟨s_.2.1, 0, none⟩)), (10, .pointer (some ⟨s_.2.2, 0, none⟩))]) (fun s_ w' => (w'.cell? ⟨gb214, 0, none⟩ = some (.int .i64 a0_0) ∧ w'.cell? ⟨gb214, 1, none⟩ = some (.int .i64 a0_1) ∧ w'.cell? ⟨gb214, 2, none⟩ = some (.int .i64 a0_2) ∧ w'.cell? ⟨gb214, 3, none⟩ = some (.int .i64 a0_3) ∧ w'.cell? ⟨gb215, 0, none⟩ = some (.int .i64 a1_0) ∧ w'.cell? ⟨gb215, 1, none⟩ = some (.int .i64 a1_1) ∧ w'.cell? ⟨gb215, 2, none⟩ = some (.int .i64 a1_2) ∧ w'.cell? ⟨gb215, 3, none⟩ = some (.int .i64 a1_3)) ∧ (w'.heap[gb214]? = some (.cells #[.int .i64 a0_0, .int .i64 a0_1, .int .i64 a0_2, .int .i64 a0_3] 23 (0, 0))) ∧ (w'.heap[gb215]? = some (.cells #[.int .i64 a1_0, .int .i64 a1_1, .int .i64 a1_2, .int .i64 a1_3] 23 (0, 0))) ∧ (w'.heap[s_.1]? = some (.cells #[.int .i64 0, .int .i64 0, .int .i64 0, .int .i64 0] 23 (0, 0))) ∧ (w'.heap[s_.2.1]? = some (.cells #[.int .i64 0, .int .i64 0, .int .i64 0, .int .i64 0] 23 (0, 0))) ∧ (w'.heap[s_.2.2]? = some (.cells #[.int .i64 0, .int .i64 0, .int .i64 0, .int .i64 0] 23 (0, 0))) ∧ (w.heap.size ≤ s_.1) ∧ (w.heap.size ≤ s_.1) ∧ (gb214 ≠ s_.1) ∧ (s_.1 ≠ gb214) ∧ (gb215 ≠ s_.1) ∧ (s_.1 ≠ gb215) ∧ (s_.2.1 ≠ s_.1) ∧ (s_.1 ≠ s_.2.1) ∧ (s_.2.2 ≠ s_.1) ∧ (s_.1 ≠ s_.2.2) ∧ (w.heap.size ≤ s_.2.1) ∧ (w.heap.size ≤ s_.2.1) ∧ (gb214 ≠ s_.2.1) ∧ (s_.2.1 ≠ gb214) ∧ (gb215 ≠ s_.2.1) ∧ (s_.2.1 ≠ gb215) ∧ (s_.2.2 ≠ s_.2.1) ∧ (s_.2.1 ≠ s_.2.2) ∧ (w.heap.size ≤ s_.2.2) ∧ (w.heap.size ≤ s_.2.2) ∧ (gb214 ≠ s_.2.2) ∧ (s_.2.2 ≠ gb214) ∧ (gb215 ≠ s_.2.2) ∧ (s_.2.2 ≠ gb215) ∧ (Below w.heap.size w w')) ?_ ?_
       rotate_left
       ·intro hJ4_6_7
        refine join_ (σ := Nat × Nat × Nat) 5 #[true, true, true, true, false, true, true, true, false, false, false, false] (fun s_ => [(8, .pointer (some ⟨s_.1, 0, none⟩)), (9, .pointer (some ⟨s_.2.1, 0, none⟩)), (10, .pointer (some ⟨s_.2.2, 0, none⟩))]) (fun s_ w' => (w'.cell? ⟨gb214, 0, none⟩ = some (.int .i64 a0_0) ∧ w'.cell? ⟨gb214, 1, none⟩ = some (.int .i64 a0_1) ∧ w'.cell? ⟨gb214, 2, none⟩ = some (.int .i64 a0_2) ∧ w'.cell? ⟨gb214, 3, none⟩ = some (.int .i64 a0_3) ∧ w'.cell? ⟨gb215, 0, none⟩ = some (.int .i64 a1_0) ∧ w'.cell? ⟨gb215, 1, none⟩ = some (.int .i64 a1_1) ∧ w'.cell? ⟨gb215, 2, none⟩ = some (.int .i64 a1_2) ∧ w'.cell? ⟨gb215, 3, none⟩ = some (.int .i64 a1_3)) ∧ (w'.heap[gb214]? = some (.cells #[.int .i64 a0_0, .int .i64 a0_1, .int .i64 a0_2, .int .i64 a0_3] 23 (0, 0))) ∧ (w'.heap[gb215]? = some (.cells #[.int .i64 a1_0, .int .i64 a1_1, .int .i64 a1_2, .int .i64 a1_3] 23 (0, 0))) ∧ (w'.heap[s_.1]? = some (.cells #[.int .i64 0, .int .i64 0, .int .i64 0, .int .i64 0] 23 (0, 0))) ∧ (w'.heap[s_.2.1]? = some (.cells #[.int .i64 0, .int .i64 0, .int .i64 0, .int .i64 0] 23 (0, 0))) ∧ (w'.heap[s_.2.2]? = some (.cells #[.int .i64 0, .int .i64 0, .int .i64 0, .int .i64 0] 23 (0, 0))) ∧ (w.heap.size ≤ s_.1) ∧ (w.heap.size ≤ s_.1) ∧ (gb214 ≠ s_.1) ∧ (s_.1 ≠ gb214) ∧ (gb215 ≠ s_.1) ∧ (s_.1 ≠ gb215) ∧ (s_.2.1 ≠ s_.1) ∧ (s_.1 ≠ s_.2.1) ∧ (s_.2.2 ≠ s_.1) ∧ (s_.1 ≠ s_.2.2) ∧ (w.heap.size ≤ s_.2.1) ∧ (w.heap.size ≤ s_.2.1) ∧ (gb214 ≠ s_.2.1) ∧ (s_.2.1 ≠ gb214) ∧ (gb215 ≠ s_.2.1) ∧ (s_.2.1 ≠ gb215) ∧ (s_.2.2 ≠ s_.2.1) ∧ (s_.2.1 ≠ s_.2.2) ∧ (w.heap.size ≤ s_.2.2) ∧ (w.heap.size ≤ s_.2.2) ∧ (gb214 ≠ s_.2.2) ∧ (s_.2.2 ≠ gb214) ∧ (gb215 ≠ s_.2.2) ∧ (s_.2.2 ≠ gb215) ∧ (Below w.heap.size w w')) ?_ ?_
        rotate_left
        ·intro hJ5_6_7
         refine join_ (σ := Nat × Nat) 6 #[true, true, true, true, true, true, false, false, false, false, false, false] (fun s_ => [(7, .pointer (some ⟨s_.1, 0, none⟩)), (8, .pointer (some ⟨s_.2, 0, none⟩))]) (fun s_ w' => (w'.cell? ⟨gb214, 0, none⟩ = some (.int .i64 a0_0) ∧ w'.cell? ⟨gb214, 1, none⟩ = some (.int .i64 a0_1) ∧ w'.cell? ⟨gb214, 2, none⟩ = some (.int .i64 a0_2) ∧ w'.cell? ⟨gb214, 3, none⟩ = some (.int .i64 a0_3) ∧ w'.cell? ⟨gb215, 0, none⟩ = some (.int .i64 a1_0) ∧ w'.cell? ⟨gb215, 1, none⟩ = some (.int .i64 a1_1) ∧ w'.cell? ⟨gb215, 2, none⟩ = some (.int .i64 a1_2) ∧ w'.cell? ⟨gb215, 3, none⟩ = some (.int .i64 a1_3)) ∧ (w'.heap[gb214]? = some (.cells #[.int .i64 a0_0, .int .i64 a0_1, .int .i64 a0_2, .int .i64 a0_3] 23 (0, 0))) ∧ (w'.heap[gb215]? = some (.cells #[.int .i64 a1_0, .int .i64 a1_1, .int .i64 a1_2, .int .i64 a1_3] 23 (0, 0))) ∧ (w'.heap[s_.1]? = some (.cells #[.int .i64 0, .int .i64 0, .int .i64 0, .int .i64 0] 23 (0, 0))) ∧ (w'.heap[s_.2]? = some (.cells #[.int .i64 0, .int .i64 0, .int .i64 0, .int .i64 0] 23 (0, 0))) ∧ (w.heap.size ≤ s_.1) ∧ (w.heap.size ≤ s_.1) ∧ (gb214 ≠ s_.1) ∧ (s_.1 ≠ gb214) ∧ (gb215 ≠ s_.1) ∧ (s_.1 ≠ gb215) ∧ (s_.2 ≠ s_.1) ∧ (s_.1 ≠ s_.2) ∧ (w.heap.size ≤ s_.2) ∧ (w.heap.size ≤ s_.2) ∧ (gb214 ≠ s_.2) ∧ (s_.2 ≠ gb214) ∧ (gb215 ≠ s_.2) ∧ (s_.2 ≠ gb215) ∧ (Below w.heap.size w w')) ?_ ?_
         rotate_left
         ·intro hJ4_5
          refine join_ (σ := Nat × Nat) 6 #[true, true, true, true, true, false, true, false, false, false, false, false] (fun s_ => [(7, .pointer (some ⟨s_.1, 0, none⟩)), (9, .pointer (some ⟨s_.2, 0, none⟩))]) (fun s_ w' => (w'.cell? ⟨gb214, 0, none⟩ = some (.int .i64 a0_0) ∧ w'.cell? ⟨gb214, 1, none⟩ = some (.int .i64 a0_1) ∧ w'.cell? ⟨gb214, 2, none⟩ = some (.int .i64 a0_2) ∧ w'.cell? ⟨gb214, 3, none⟩ = some (.int .i64 a0_3) ∧ w'.cell? ⟨gb215, 0, none⟩ = some (.int .i64 a1_0) ∧ w'.cell? ⟨gb215, 1, none⟩ = some (.int .i64 a1_1) ∧ w'.cell? ⟨gb215, 2, none⟩ = some (.int .i64 a1_2) ∧ w'.cell? ⟨gb215, 3, none⟩ = some (.int .i64 a1_3)) ∧ (w'.heap[gb214]? = some (.cells #[.int .i64 a0_0, .int .i64 a0_1, .int .i64 a0_2, .int .i64 a0_3] 23 (0, 0))) ∧ (w'.heap[gb215]? = some (.cells #[.int .i64 a1_0, .int .i64 a1_1, .int .i64 a1_2, .int .i64 a1_3] 23 (0, 0))) ∧ (w'.heap[s_.1]? = some (.cells #[.int .i64 0, .int .i64 0, .int .i64 0, .int .i64 0] 23 (0, 0))) ∧ (w'.heap[s_.2]? = some (.cells #[.int .i64 0, .int .i64 0, .int .i64 0, .int .i64 0] 23 (0, 0))) ∧ (w.heap.size ≤ s_.1) ∧ (w.heap.size ≤ s_.1) ∧ (gb214 ≠ s_.1) ∧ (s_.1 ≠ gb214) ∧ (gb215 ≠ s_.1) ∧ (s_.1 ≠ gb215) ∧ (s_.2 ≠ s_.1) ∧ (s_.1 ≠ s_.2) ∧ (w.heap.size ≤ s_.2) ∧ (w.heap.size ≤ s_.2) ∧ (gb214 ≠ s_.2) ∧ (s_.2 ≠ gb214) ∧ (gb215 ≠ s_.2) ∧ (s_.2 ≠ gb215) ∧ (Below w.heap.size w w')) ?_ ?_
          rotate_left
          ·intro hJ4_6
           refine join_ (σ := Nat × Nat) 6 #[true, true, true, true, true, false, false, true, false, false, false, false] (fun s_ => [(7, .pointer (some ⟨s_.1, 0, none⟩)), (10, .pointer (some ⟨s_.2, 0, none⟩))]) (fun s_ w' => (w'.cell? ⟨gb214, 0, none⟩ = some (.int .i64 a0_0) ∧ w'.cell? ⟨gb214, 1, none⟩ = some (.int .i64 a0_1) ∧ w'.cell? ⟨gb214, 2, none⟩ = some (.int .i64 a0_2) ∧ w'.cell? ⟨gb214, 3, none⟩ = some (.int .i64 a0_3) ∧ w'.cell? ⟨gb215, 0, none⟩ = some (.int .i64 a1_0) ∧ w'.cell? ⟨gb215, 1, none⟩ = some (.int .i64 a1_1) ∧ w'.cell? ⟨gb215, 2, none⟩ = some (.int .i64 a1_2) ∧ w'.cell? ⟨gb215, 3, none⟩ = some (.int .i64 a1_3)) ∧ (w'.heap[gb214]? = some (.cells #[.int .i64 a0_0, .int .i64 a0_1, .int .i64 a0_2, .int .i64 a0_3] 23 (0, 0))) ∧ (w'.heap[gb215]? = some (.cells #[.int .i64 a1_0, .int .i64 a1_1, .int .i64 a1_2, .int .i64 a1_3] 23 (0, 0))) ∧ (w'.heap[s_.1]? = some (.cells #[.int .i64 0, .int .i64 0, .int .i64 0, .int .i64 0] 23 (0, 0))) ∧ (w'.heap[s_.2]? = some (.cells #[.int .i64 0, .int .i64 0, .int .i64 0, .int .i64 0] 23 (0, 0))) ∧ (w.heap.size ≤ s_.1) ∧ (w.heap.size ≤ s_.1) ∧ (gb214 ≠ s_.1) ∧ (s_.1 ≠ gb214) ∧ (gb215 ≠ s_.1) ∧ (s_.1 ≠ gb215) ∧ (s_.2 ≠ s_.1) ∧ (s_.1 ≠ s_.2) ∧ (w.heap.size ≤ s_.2) ∧ (w.heap.size ≤ s_.2) ∧ (gb214 ≠ s_.2) ∧ (s_.2 ≠ gb214) ∧ (gb215 ≠ s_.2) ∧ (s_.2 ≠ gb215) ∧ (Below w.heap.size w w')) ?_ ?_
           rotate_left
           ·intro hJ4_7
            refine join_ (σ := Nat × Nat) 6 #[true, true, true, true, false, true, true, false, false, false, false, false] (fun s_ => [(8, .pointer (some ⟨s_.1, 0, none⟩)), (9, .pointer (some ⟨s_.2, 0, none⟩))]) (fun s_ w' => (w'.cell? ⟨gb214, 0, none⟩ = some (.int .i64 a0_0) ∧ w'.cell? ⟨gb214, 1, none⟩ = some (.int .i64 a0_1) ∧ w'.cell? ⟨gb214, 2, none⟩ = some (.int .i64 a0_2) ∧ w'.cell? ⟨gb214, 3, none⟩ = some (.int .i64 a0_3) ∧ w'.cell? ⟨gb215, 0, none⟩ = some (.int .i64 a1_0) ∧ w'.cell? ⟨gb215, 1, none⟩ = some (.int .i64 a1_1) ∧ w'.cell? ⟨gb215, 2, none⟩ = some (.int .i64 a1_2) ∧ w'.cell? ⟨gb215, 3, none⟩ = some (.int .i64 a1_3)) ∧ (w'.heap[gb214]? = some (.cells #[.int .i64 a0_0, .int .i64 a0_1, .int .i64 a0_2, .int .i64 a0_3] 23 (0, 0))) ∧ (w'.heap[gb215]? = some (.cells #[.int .i64 a1_0, .int .i64 a1_1, .int .i64 a1_2, .int .i64 a1_3] 23 (0, 0))) ∧ (w'.heap[s_.1]? = some (.cells #[.int .i64 0, .int .i64 0, .int .i64 0, .int .i64 0] 23 (0, 0))) ∧ (w'.heap[s_.2]? = some (.cells #[.int .i64 0, .int .i64 0, .int .i64 0, .int .i64 0] 23 (0, 0))) ∧ (w.heap.size ≤ s_.1) ∧ (w.heap.size ≤ s_.1) ∧ (gb214 ≠ s_.1) ∧ (s_.1 ≠ gb214) ∧ (gb215 ≠ s_.1) ∧ (s_.1 ≠ gb215) ∧ (s_.2 ≠ s_.1) ∧ (s_.1 ≠ s_.2) ∧ (w.heap.size ≤ s_.2) ∧ (w.heap.size ≤ s_.2) ∧ (gb214 ≠ s_.2) ∧ (s_.2 ≠ gb214) ∧ (gb215 ≠ s_.2) ∧ (s_.2 ≠ gb215) ∧ (Below w.heap.size w w')) ?_ ?_
            rotate_left
            ·intro hJ5_6
             refine join_ (σ := Nat × Nat) 6 #[true, true, true, true, false, true, false, true, false, false, false, false] (fun s_ => [(8, .pointer (some ⟨s_.1, 0, none⟩)), (10, .pointer (some ⟨s_.2, 0, none⟩))]) (fun s_ w' => (w'.cell? ⟨gb214, 0, none⟩ = some (.int .i64 a0_0) ∧ w'.cell? ⟨gb214, 1, none⟩ = some (.int .i64 a0_1) ∧ w'.cell? ⟨gb214, 2, none⟩ = some (.int .i64 a0_2) ∧ w'.cell? ⟨gb214, 3, none⟩ = some (.int .i64 a0_3) ∧ w'.cell? ⟨gb215, 0, none⟩ = some (.int .i64 a1_0) ∧ w'.cell? ⟨gb215, 1, none⟩ = some (.int .i64 a1_1) ∧ w'.cell? ⟨gb215, 2, none⟩ = some (.int .i64 a1_2) ∧ w'.cell? ⟨gb215, 3, none⟩ = some (.int .i64 a1_3)) ∧ (w'.heap[gb214]? = some (.cells #[.int .i64 a0_0, .int .i64 a0_1, .int .i64 a0_2, .int .i64 a0_3] 23 (0, 0))) ∧ (w'.heap[gb215]? = some (.cells #[.int .i64 a1_0, .int .i64 a1_1, .int .i64 a1_2, .int .i64 a1_3] 23 (0, 0))) ∧ (w'.heap[s_.1]? = some (.cells #[.int .i64 0, .int .i64 0, .int .i64 0, .int .i64 0] 23 (0, 0))) ∧ (w'.heap[s_.2]? = some (.cells #[.int .i64 0, .int .i64 0, .int .i64 0, .int .i64 0] 23 (0, 0))) ∧ (w.heap.size ≤ s_.1) ∧ (w.heap.size ≤ s_.1) ∧ (gb214 ≠ s_.1) ∧ (s_.1 ≠ gb214) ∧ (gb215 ≠ s_.1) ∧ (s_.1 ≠ gb215) ∧ (s_.2 ≠ s_.1) ∧ (s_.1 ≠ s_.2) ∧ (w.heap.size ≤ s_.2) ∧ (w.heap.size ≤ s_.2) ∧ (gb214 ≠ s_.2) ∧ (s_.2 ≠ gb214) ∧ (gb215 ≠ s_.2) ∧ (s_.2 ≠ gb215) ∧ (Below w.heap.size w w')) ?_ ?_
             rotate_left
             ·intro hJ5_7
              refine join_ (σ := Nat × Nat) 6 #[true, true, true, true, false, false, true, true, false, false, false, false] (fun s_ => [(9, .pointer (some ⟨s_.1, 0, none⟩)), (10, .pointer (some ⟨s_.2, 0, none⟩))]) (fun s_ w' => (w'.cell? ⟨gb214, 0, none⟩ = some (.int .i64 a0_0) ∧ w'.cell? ⟨gb214, 1, none⟩ = some (.int .i64 a0_1) ∧ w'.cell? ⟨gb214, 2, none⟩ = some (.int .i64 a0_2) ∧ w'.cell? ⟨gb214, 3, none⟩ = some (.int .i64 a0_3) ∧ w'.cell? ⟨gb215, 0, none⟩ = some (.int .i64 a1_0) ∧ w'.cell? ⟨gb215, 1, none⟩ = some (.int .i64 a1_1) ∧ w'.cell? ⟨gb215, 2, none⟩ = some (.int .i64 a1_2) ∧ w'.cell? ⟨gb215, 3, none⟩ = some (.int .i64 a1_3)) ∧ (w'.heap[gb214]? = some (.cells #[.int .i64 a0_0, .int .i64 a0_1, .int .i64 a0_2, .int .i64 a0_3] 23 (0, 0))) ∧ (w'.heap[gb215]? = some (.cells #[.int .i64 a1_0, .int .i64 a1_1, .int .i64 a1_2, .int .i64 a1_3] 23 (0, 0))) ∧ (w'.heap[s_.1]? = some (.cells #[.int .i64 0, .int .i64 0, .int .i64 0, .int .i64 0] 23 (0, 0))) ∧ (w'.heap[s_.2]? = some (.cells #[.int .i64 0, .int .i64 0, .int .i64 0, .int .i64 0] 23 (0, 0))) ∧ (w.heap.size ≤ s_.1) ∧ (w.heap.size ≤ s_.1) ∧ (gb214 ≠ s_.1) ∧ (s_.1 ≠ gb214) ∧ (gb215 ≠ s_.1) ∧ (s_.1 ≠ gb215) ∧ (s_.2 ≠ s_.1) ∧ (s_.1 ≠ s_.2) ∧ (w.heap.size ≤ s_.2) ∧ (w.heap.size ≤ s_.2) ∧ (gb214 ≠ s_.2) ∧ (s_.2 ≠ gb214) ∧ (gb215 ≠ s_.2) ∧ (s_.2 ≠ gb215) ∧ (Below w.heap.size w w')) ?_ ?_
              rotate_left
              ·intro hJ6_7
               refine join_ (σ := Nat) 7 #[true, true, true, true, true, false, false, false, false, false, false, false] (fun s_ => [(7, .pointer (some ⟨s_, 0, none⟩))]) (fun s_ w' => (w'.cell? ⟨gb214, 0, none⟩ = some (.int .i64 a0_0) ∧ w'.cell? ⟨gb214, 1, none⟩ = some (.int .i64 a0_1) ∧ w'.cell? ⟨gb214, 2, none⟩ = some (.int .i64 a0_2) ∧ w'.cell? ⟨gb214, 3, none⟩ = some (.int .i64 a0_3) ∧ w'.cell? ⟨gb215, 0, none⟩ = some (.int .i64 a1_0) ∧ w'.cell? ⟨gb215, 1, none⟩ = some (.int .i64 a1_1) ∧ w'.cell? ⟨gb215, 2, none⟩ = some (.int .i64 a1_2) ∧ w'.cell? ⟨gb215, 3, none⟩ = some (.int .i64 a1_3)) ∧ (w'.heap[gb214]? = some (.cells #[.int .i64 a0_0, .int .i64 a0_1, .int .i64 a0_2, .int .i64 a0_3] 23 (0, 0))) ∧ (w'.heap[gb215]? = some (.cells #[.int .i64 a1_0, .int .i64 a1_1, .int .i64 a1_2, .int .i64 a1_3] 23 (0, 0))) ∧ (w'.heap[s_]? = some (.cells #[.int .i64 0, .int .i64 0, .int .i64 0, .int .i64 0] 23 (0, 0))) ∧ (w.heap.size ≤ s_) ∧ (w.heap.size ≤ s_) ∧ (gb214 ≠ s_) ∧ (s_ ≠ gb214) ∧ (gb215 ≠ s_) ∧ (s_ ≠ gb215) ∧ (Below w.heap.size w w')) ?_ ?_
               rotate_left
               ·intro hJ4
                refine join_ (σ := Nat) 7 #[true, true, true, true, false, true, false, false, false, false, false, false] (fun s_ => [(8, .pointer (some ⟨s_, 0, none⟩))]) (fun s_ w' => (w'.cell? ⟨gb214, 0, none⟩ = some (.int .i64 a0_0) ∧ w'.cell? ⟨gb214, 1, none⟩ = some (.int .i64 a0_1) ∧ w'.cell? ⟨gb214, 2, none⟩ = some (.int .i64 a0_2) ∧ w'.cell? ⟨gb214, 3, none⟩ = some (.int .i64 a0_3) ∧ w'.cell? ⟨gb215, 0, none⟩ = some (.int .i64 a1_0) ∧ w'.cell? ⟨gb215, 1, none⟩ = some (.int .i64 a1_1) ∧ w'.cell? ⟨gb215, 2, none⟩ = some (.int .i64 a1_2) ∧ w'.cell? ⟨gb215, 3, none⟩ = some (.int .i64 a1_3)) ∧ (w'.heap[gb214]? = some (.cells #[.int .i64 a0_0, .int .i64 a0_1, .int .i64 a0_2, .int .i64 a0_3] 23 (0, 0))) ∧ (w'.heap[gb215]? = some (.cells #[.int .i64 a1_0, .int .i64 a1_1, .int .i64 a1_2, .int .i64 a1_3] 23 (0, 0))) ∧ (w'.heap[s_]? = some (.cells #[.int .i64 0, .int .i64 0, .int .i64 0, .int .i64 0] 23 (0, 0))) ∧ (w.heap.size ≤ s_) ∧ (w.heap.size ≤ s_) ∧ (gb214 ≠ s_) ∧ (s_ ≠ gb214) ∧ (gb215 ≠ s_) ∧ (s_ ≠ gb215) ∧ (Below w.heap.size w w')) ?_ ?_
                rotate_left
                ·intro hJ5
                 refine join_ (σ := Nat) 7 #[true, true, true, true, false, false, true, false, false, false, false, false] (fun s_ => [(9, .pointer (some ⟨s_, 0, none⟩))]) (fun s_ w' => (w'.cell? ⟨gb214, 0, none⟩ = some (.int .i64 a0_0) ∧ w'.cell? ⟨gb214, 1, none⟩ = some (.int .i64 a0_1) ∧ w'.cell? ⟨gb214, 2, none⟩ = some (.int .i64 a0_2) ∧ w'.cell? ⟨gb214, 3, none⟩ = some (.int .i64 a0_3) ∧ w'.cell? ⟨gb215, 0, none⟩ = some (.int .i64 a1_0) ∧ w'.cell? ⟨gb215, 1, none⟩ = some (.int .i64 a1_1) ∧ w'.cell? ⟨gb215, 2, none⟩ = some (.int .i64 a1_2) ∧ w'.cell? ⟨gb215, 3, none⟩ = some (.int .i64 a1_3)) ∧ (w'.heap[gb214]? = some (.cells #[.int .i64 a0_0, .int .i64 a0_1, .int .i64 a0_2, .int .i64 a0_3] 23 (0, 0))) ∧ (w'.heap[gb215]? = some (.cells #[.int .i64 a1_0, .int .i64 a1_1, .int .i64 a1_2, .int .i64 a1_3] 23 (0, 0))) ∧ (w'.heap[s_]? = some (.cells #[.int .i64 0, .int .i64 0, .int .i64 0, .int .i64 0] 23 (0, 0))) ∧ (w.heap.size ≤ s_) ∧ (w.heap.size ≤ s_) ∧ (gb214 ≠ s_) ∧ (s_ ≠ gb214) ∧ (gb215 ≠ s_) ∧ (s_ ≠ gb215) ∧ (Below w.heap.size w w')) ?_ ?_
                 rotate_left
                 ·intro hJ6
                  refine join_ (σ := Nat) 7 #[true, true, true, true, false, false, false, true, false, false, false, false] (fun s_ => [(10, .pointer (some ⟨s_, 0, none⟩))]) (fun s_ w' => (w'.cell? ⟨gb214, 0, none⟩ = some (.int .i64 a0_0) ∧ w'.cell? ⟨gb214, 1, none⟩ = some (.int .i64 a0_1) ∧ w'.cell? ⟨gb214, 2, none⟩ = some (.int .i64 a0_2) ∧ w'.cell? ⟨gb214, 3, none⟩ = some (.int .i64 a0_3) ∧ w'.cell? ⟨gb215, 0, none⟩ = some (.int .i64 a1_0) ∧ w'.cell? ⟨gb215, 1, none⟩ = some (.int .i64 a1_1) ∧ w'.cell? ⟨gb215, 2, none⟩ = some (.int .i64 a1_2) ∧ w'.cell? ⟨gb215, 3, none⟩ = some (.int .i64 a1_3)) ∧ (w'.heap[gb214]? = some (.cells #[.int .i64 a0_0, .int .i64 a0_1, .int .i64 a0_2, .int .i64 a0_3] 23 (0, 0))) ∧ (w'.heap[gb215]? = some (.cells #[.int .i64 a1_0, .int .i64 a1_1, .int .i64 a1_2, .int .i64 a1_3] 23 (0, 0))) ∧ (w'.heap[s_]? = some (.cells #[.int .i64 0, .int .i64 0, .int .i64 0, .int .i64 0] 23 (0, 0))) ∧ (w.heap.size ≤ s_) ∧ (w.heap.size ≤ s_) ∧ (gb214 ≠ s_) ∧ (s_ ≠ gb214) ∧ (gb215 ≠ s_) ∧ (s_ ≠ gb215) ∧ (Below w.heap.size w w')) ?_ ?_
                  rotate_left
                  ·intro hJ7
                   refine four_ (i := 4) (j := 5) (k := 6) (m := 7) (Ni := some 7) (Nj := some 8) (Nk := some 9) (Nm := some 10) #[true, true, true, true, true, false, false, false, false, false, false, false] #[true, true, true, true, false, true, false, false, false, false, false, false] #[true, true, true, true, false, false, true, false, false, false, false, false] #[true, true, true, true, false, false, false, true, false, false, false, false] rfl rfl rfl rfl rfl rfl rfl rfl (four_of HT_.out (by kernel_rfl)) (by decide) (by decide) (by decide) (by decide) (fun K hK => ?_) (fun K hK => ?_) (fun K hK => ?_) (fun K hK => ?_)
                   ·skip
                    refine box_step ?hg (N := 7) ?hd (cs := #[.int .i64 0, .int .i64 0, .int .i64 0, .int .i64 0]) (t := 23) ?hr ?_; (case hd => rfl); (case hg => rfl); (case hr => first | (go_simp; done) | (go_simp; rfl))
                    intro gb220 hg w30 hbox hb
                    have BK220 := Aside0.mk (hbox)
                    have GW220 := sW (w := w) hg (mBs HB.out)
                    have GE220 := sW (w := w) hg (mBs HB.out)
                    have NB214_220 := sL hg (mBK BK214.out)
                    have NB220_214 := sG hg (mBK BK214.out)
                    have NB215_220 := sL hg (mBK BK215.out)
                    have NB220_215 := sG hg (mBK BK215.out)
                    replace BK214 := sB hb (mBK BK214.out)
                    replace BK215 := sB hb (mBK BK215.out)
                    replace HB := Aside0.mk (below_step (mBs HB.out) hb)
                    clear hb hbox hg
                    refine hK.out _ _ ⟨bc BK214 0, bc BK214 1, bc BK214 2, bc BK214 3, bc BK215 0, bc BK215 1, bc BK215 2, bc BK215 3⟩ (fun hHeld => ?_)
                    clear hK; clear K
                    refine norm_ (a' := ?_) ?_ ?_
                    rotate_left
                    ·show Act.put _ (some 7) _ = _
                     simp only [Act.put, List.setIfInBounds_toArray, List.set_cons_zero, List.set_cons_succ, i64_w, i32_w]
                     rfl
                    exact mN norm_ (hJ4 (gb220) _ ⟨hHeld, (mBK BK214.out), (mBK BK215.out), (mBK BK220.out), GW220.out, GE220.out, NB214_220.out, NB220_214.out, NB215_220.out, NB220_215.out, (mBs HB.out)⟩)
                   ·skip
                    refine box_step ?hg (N := 8) ?hd (cs := #[.int .i64 0, .int .i64 0, .int .i64 0, .int .i64 0]) (t := 23) ?hr ?_; (case hd => rfl); (case hg => rfl); (case hr => first | (go_simp; done) | (go_simp; rfl))
                    intro gb221 hg w30 hbox hb
                    have BK221 := Aside0.mk (hbox)
                    have GW221 := sW (w := w) hg (mBs HB.out)
                    have GE221 := sW (w := w) hg (mBs HB.out)
                    have NB214_221 := sL hg (mBK BK214.out)
                    have NB221_214 := sG hg (mBK BK214.out)
                    have NB215_221 := sL hg (mBK BK215.out)
                    have NB221_215 := sG hg (mBK BK215.out)
                    replace BK214 := sB hb (mBK BK214.out)
                    replace BK215 := sB hb (mBK BK215.out)
                    replace HB := Aside0.mk (below_step (mBs HB.out) hb)
                    clear hb hbox hg
                    refine hK.out _ _ ⟨bc BK214 0, bc BK214 1, bc BK214 2, bc BK214 3, bc BK215 0, bc BK215 1, bc BK215 2, bc BK215 3⟩ (fun hHeld => ?_)
                    clear hK; clear K
                    refine norm_ (a' := ?_) ?_ ?_
                    rotate_left
                    ·show Act.put _ (some 8) _ = _
                     simp only [Act.put, List.setIfInBounds_toArray, List.set_cons_zero, List.set_cons_succ, i64_w, i32_w]
                     rfl
                    exact mN norm_ (hJ5 (gb221) _ ⟨hHeld, (mBK BK214.out), (mBK BK215.out), (mBK BK221.out), GW221.out, GE221.out, NB214_221.out, NB221_214.out, NB215_221.out, NB221_215.out, (mBs HB.out)⟩)
                   ·skip
                    refine box_step ?hg (N := 9) ?hd (cs := #[.int .i64 0, .int .i64 0, .int .i64 0, .int .i64 0]) (t := 23) ?hr ?_; (case hd => rfl); (case hg => rfl); (case hr => first | (go_simp; done) | (go_simp; rfl))
                    intro gb222 hg w30 hbox hb
                    have BK222 := Aside0.mk (hbox)
                    have GW222 := sW (w := w) hg (mBs HB.out)
                    have GE222 := sW (w := w) hg (mBs HB.out)
                    have NB214_222 := sL hg (mBK BK214.out)
                    have NB222_214 := sG hg (mBK BK214.out)
                    have NB215_222 := sL hg (mBK BK215.out)
                    have NB222_215 := sG hg (mBK BK215.out)
                    replace BK214 := sB hb (mBK BK214.out)
                    replace BK215 := sB hb (mBK BK215.out)
                    replace HB := Aside0.mk (below_step (mBs HB.out) hb)
                    clear hb hbox hg
                    refine hK.out _ _ ⟨bc BK214 0, bc BK214 1, bc BK214 2, bc BK214 3, bc BK215 0, bc BK215 1, bc BK215 2, bc BK215 3⟩ (fun hHeld => ?_)
                    clear hK; clear K
                    refine norm_ (a' := ?_) ?_ ?_
                    rotate_left
                    ·show Act.put _ (some 9) _ = _
                     simp only [Act.put, List.setIfInBounds_toArray, List.set_cons_zero, List.set_cons_succ, i64_w, i32_w]
                     rfl
                    exact mN norm_ (hJ6 (gb222) _ ⟨hHeld, (mBK BK214.out), (mBK BK215.out), (mBK BK222.out), GW222.out, GE222.out, NB214_222.out, NB222_214.out, NB215_222.out, NB222_215.out, (mBs HB.out)⟩)
                   ·skip
                    refine box_step ?hg (N := 10) ?hd (cs := #[.int .i64 0, .int .i64 0, .int .i64 0, .int .i64 0]) (t := 23) ?hr ?_; (case hd => rfl); (case hg => rfl); (case hr => first | (go_simp; done) | (go_simp; rfl))
                    intro gb223 hg w30 hbox hb
                    have BK223 := Aside0.mk (hbox)
                    have GW223 := sW (w := w) hg (mBs HB.out)
                    have GE223 := sW (w := w) hg (mBs HB.out)
                    have NB214_223 := sL hg (mBK BK214.out)
                    have NB223_214 := sG hg (mBK BK214.out)
                    have NB215_223 := sL hg (mBK BK215.out)
                    have NB223_215 := sG hg (mBK BK215.out)
                    replace BK214 := sB hb (mBK BK214.out)
                    replace BK215 := sB hb (mBK BK215.out)
                    replace HB := Aside0.mk (below_step (mBs HB.out) hb)
                    clear hb hbox hg
                    refine hK.out _ _ ⟨bc BK214 0, bc BK214 1, bc BK214 2, bc BK214 3, bc BK215 0, bc BK215 1, bc BK215 2, bc BK215 3⟩ (fun hHeld => ?_)
                    clear hK; clear K
                    refine norm_ (a' := ?_) ?_ ?_
                    rotate_left
                    ·show Act.put _ (some 10) _ = _
                     simp only [Act.put, List.setIfInBounds_toArray, List.set_cons_zero, List.set_cons_succ, i64_w, i32_w]
                     rfl
                    exact mN norm_ (hJ7 (gb223) _ ⟨hHeld, (mBK BK214.out), (mBK BK215.out), (mBK BK223.out), GW223.out, GE223.out, NB214_223.out, NB223_214.out, NB215_223.out, NB223_215.out, (mBs HB.out)⟩)
                  ·skip
                   rintro gb223 w31 ⟨hS_, h0_, h1_, h2_, h3_, h4_, h5_, h6_, h7_, h8_, h9_⟩
                   have BK223 : Aside0 (w31.heap[gb223]? = some (.cells #[.int .i64 0, .int .i64 0, .int .i64 0, .int .i64 0] 23 (0, 0))) := ⟨h2_⟩
                   have GW223 : Aside0 (w.heap.size ≤ gb223) := ⟨h3_⟩
                   have GE223 : Aside0 (w.heap.size ≤ gb223) := ⟨h4_⟩
                   have NB214_223 : Aside0 (gb214 ≠ gb223) := ⟨h5_⟩
                   have NB223_214 : Aside0 (gb223 ≠ gb214) := ⟨h6_⟩
                   have NB215_223 : Aside0 (gb215 ≠ gb223) := ⟨h7_⟩
                   have NB223_215 : Aside0 (gb223 ≠ gb215) := ⟨h8_⟩
                   replace BK214 : Aside0 (w31.heap[gb214]? = some (.cells #[.int .i64 a0_0, .int .i64 a0_1, .int .i64 a0_2, .int .i64 a0_3] 23 (0, 0))) := ⟨h0_⟩
                   replace BK215 : Aside0 (w31.heap[gb215]? = some (.cells #[.int .i64 a1_0, .int .i64 a1_1, .int .i64 a1_2, .int .i64 a1_3] 23 (0, 0))) := ⟨h1_⟩
                   replace HB : Aside0 (Below w.heap.size w w31) := ⟨h9_⟩
                   clear h0_ h1_ h2_ h3_ h4_ h5_ h6_ h7_ h8_ h9_
                   have hHeld : w31.cell? ⟨gb214, 0, none⟩ = some (.int .i64 a0_0) ∧ w31.cell? ⟨gb214, 1, none⟩ = some (.int .i64 a0_1) ∧ w31.cell? ⟨gb214, 2, none⟩ = some (.int .i64 a0_2) ∧ w31.cell? ⟨gb214, 3, none⟩ = some (.int .i64 a0_3) ∧ w31.cell? ⟨gb215, 0, none⟩ = some (.int .i64 a1_0) ∧ w31.cell? ⟨gb215, 1, none⟩ = some (.int .i64 a1_1) ∧ w31.cell? ⟨gb215, 2, none⟩ = some (.int .i64 a1_2) ∧ w31.cell? ⟨gb215, 3, none⟩ = some (.int .i64 a1_3) := hS_
                   refine norm_ (a' := ?_) ?_ ?_
                   rotate_left
                   ·simp only [putAll, Act.put, List.setIfInBounds_toArray, List.set_cons_zero, List.set_cons_succ]
                    rfl
                   refine three_ (i := 4) (j := 5) (k := 6) (Ni := some 7) (Nj := some 8) (Nk := some 9) #[true, true, true, true, true, false, false, true, false, false, false, false] #[true, true, true, true, false, true, false, true, false, false, false, false] #[true, true, true, true, false, false, true, true, false, false, false, false] rfl rfl rfl rfl rfl rfl (three_of HT_.out (by kernel_rfl)) (by decide) (by decide) (by decide) (fun K hK => ?_) (fun K hK => ?_) (fun K hK => ?_)
                   ·skip
                    refine box_step ?hg (N := 7) ?hd (cs := #[.int .i64 0, .int .i64 0, .int .i64 0, .int .i64 0]) (t := 23) ?hr ?_; (case hd => rfl); (case hg => rfl); (case hr => first | (go_simp; done) | (go_simp; rfl))
                    intro gb220 hg w32 hbox hb
                    have BK220 := Aside0.mk (hbox)
                    have GW220 := sW (w := w) hg (mBs HB.out)
                    have GE220 := sW (w := w) hg (mBs HB.out)
                    have NB214_220 := sL hg (mBK BK214.out)
                    have NB220_214 := sG hg (mBK BK214.out)
                    have NB215_220 := sL hg (mBK BK215.out)
                    have NB220_215 := sG hg (mBK BK215.out)
                    have NB223_220 := sL hg (mBK BK223.out)
                    have NB220_223 := sG hg (mBK BK223.out)
                    replace BK214 := sB hb (mBK BK214.out)
                    replace BK215 := sB hb (mBK BK215.out)
                    replace BK223 := sB hb (mBK BK223.out)
                    replace HB := Aside0.mk (below_step (mBs HB.out) hb)
                    clear hb hbox hg
                    refine hK.out _ _ ⟨bc BK214 0, bc BK214 1, bc BK214 2, bc BK214 3, bc BK215 0, bc BK215 1, bc BK215 2, bc BK215 3⟩ (fun hHeld => ?_)
                    clear hK; clear K
                    refine norm_ (a' := ?_) ?_ ?_
                    rotate_left
                    ·show Act.put _ (some 7) _ = _
                     simp only [Act.put, List.setIfInBounds_toArray, List.set_cons_zero, List.set_cons_succ, i64_w, i32_w]
                     rfl
                    exact mN norm_ (hJ4_7 (gb220, gb223) _ ⟨hHeld, (mBK BK214.out), (mBK BK215.out), (mBK BK220.out), (mBK BK223.out), GW220.out, GE220.out, NB214_220.out, NB220_214.out, NB215_220.out, NB220_215.out, NB223_220.out, NB220_223.out, GW223.out, GE223.out, NB214_223.out, NB223_214.out, NB215_223.out, NB223_215.out, (mBs HB.out)⟩)
                   ·skip
                    refine box_step ?hg (N := 8) ?hd (cs := #[.int .i64 0, .int .i64 0, .int .i64 0, .int .i64 0]) (t := 23) ?hr ?_; (case hd => rfl); (case hg => rfl); (case hr => first | (go_simp; done) | (go_simp; rfl))
                    intro gb221 hg w32 hbox hb
                    have BK221 := Aside0.mk (hbox)
                    have GW221 := sW (w := w) hg (mBs HB.out)
                    have GE221 := sW (w := w) hg (mBs HB.out)
                    have NB214_221 := sL hg (mBK BK214.out)
                    have NB221_214 := sG hg (mBK BK214.out)
                    have NB215_221 := sL hg (mBK BK215.out)
                    have NB221_215 := sG hg (mBK BK215.out)
                    have NB223_221 := sL hg (mBK BK223.out)
                    have NB221_223 := sG hg (mBK BK223.out)
                    replace BK214 := sB hb (mBK BK214.out)
                    replace BK215 := sB hb (mBK BK215.out)
                    replace BK223 := sB hb (mBK BK223.out)
                    replace HB := Aside0.mk (below_step (mBs HB.out) hb)
                    clear hb hbox hg
                    refine hK.out _ _ ⟨bc BK214 0, bc BK214 1, bc BK214 2, bc BK214 3, bc BK215 0, bc BK215 1, bc BK215 2, bc BK215 3⟩ (fun hHeld => ?_)
                    clear hK; clear K
                    refine norm_ (a' := ?_) ?_ ?_
                    rotate_left
                    ·show Act.put _ (some 8) _ = _
                     simp only [Act.put, List.setIfInBounds_toArray, List.set_cons_zero, List.set_cons_succ, i64_w, i32_w]
                     rfl
                    exact mN norm_ (hJ5_7 (gb221, gb223) _ ⟨hHeld, (mBK BK214.out), (mBK BK215.out), (mBK BK221.out), (mBK BK223.out), GW221.out, GE221.out, NB214_221.out, NB221_214.out, NB215_221.out, NB221_215.out, NB223_221.out, NB221_223.out, GW223.out, GE223.out, NB214_223.out, NB223_214.out, NB215_223.out, NB223_215.out, (mBs HB.out)⟩)
                   ·skip
                    refine box_step ?hg (N := 9) ?hd (cs := #[.int .i64 0, .int .i64 0, .int .i64 0, .int .i64 0]) (t := 23) ?hr ?_; (case hd => rfl); (case hg => rfl); (case hr => first | (go_simp; done) | (go_simp; rfl))
                    intro gb222 hg w32 hbox hb
                    have BK222 := Aside0.mk (hbox)
                    have GW222 := sW (w := w) hg (mBs HB.out)
                    have GE222 := sW (w := w) hg (mBs HB.out)
                    have NB214_222 := sL hg (mBK BK214.out)
                    have NB222_214 := sG hg (mBK BK214.out)
                    have NB215_222 := sL hg (mBK BK215.out)
                    have NB222_215 := sG hg (mBK BK215.out)
                    have NB223_222 := sL hg (mBK BK223.out)
                    have NB222_223 := sG hg (mBK BK223.out)
                    replace BK214 := sB hb (mBK BK214.out)
                    replace BK215 := sB hb (mBK BK215.out)
                    replace BK223 := sB hb (mBK BK223.out)
                    replace HB := Aside0.mk (below_step (mBs HB.out) hb)
                    clear hb hbox hg
                    refine hK.out _ _ ⟨bc BK214 0, bc BK214 1, bc BK214 2, bc BK214 3, bc BK215 0, bc BK215 1, bc BK215 2, bc BK215 3⟩ (fun hHeld => ?_)
                    clear hK; clear K
                    refine norm_ (a' := ?_) ?_ ?_
                    rotate_left
                    ·show Act.put _ (some 9) _ = _
                     simp only [Act.put, List.setIfInBounds_toArray, List.set_cons_zero, List.set_cons_succ, i64_w, i32_w]
                     rfl
                    exact mN norm_ (hJ6_7 (gb222, gb223) _ ⟨hHeld, (mBK BK214.out), (mBK BK215.out), (mBK BK222.out), (mBK BK223.out), GW222.out, GE222.out, NB214_222.out, NB222_214.out, NB215_222.out, NB222_215.out, NB223_222.out, NB222_223.out, GW223.out, GE223.out, NB214_223.out, NB223_214.out, NB215_223.out, NB223_215.out, (mBs HB.out)⟩)
                 ·skip
                  rintro gb222 w31 ⟨hS_, h0_, h1_, h2_, h3_, h4_, h5_, h6_, h7_, h8_, h9_⟩
                  have BK222 : Aside0 (w31.heap[gb222]? = some (.cells #[.int .i64 0, .int .i64 0, .int .i64 0, .int .i64 0] 23 (0, 0))) := ⟨h2_⟩
                  have GW222 : Aside0 (w.heap.size ≤ gb222) := ⟨h3_⟩
                  have GE222 : Aside0 (w.heap.size ≤ gb222) := ⟨h4_⟩
                  have NB214_222 : Aside0 (gb214 ≠ gb222) := ⟨h5_⟩
                  have NB222_214 : Aside0 (gb222 ≠ gb214) := ⟨h6_⟩
                  have NB215_222 : Aside0 (gb215 ≠ gb222) := ⟨h7_⟩
                  have NB222_215 : Aside0 (gb222 ≠ gb215) := ⟨h8_⟩
                  replace BK214 : Aside0 (w31.heap[gb214]? = some (.cells #[.int .i64 a0_0, .int .i64 a0_1, .int .i64 a0_2, .int .i64 a0_3] 23 (0, 0))) := ⟨h0_⟩
                  replace BK215 : Aside0 (w31.heap[gb215]? = some (.cells #[.int .i64 a1_0, .int .i64 a1_1, .int .i64 a1_2, .int .i64 a1_3] 23 (0, 0))) := ⟨h1_⟩
                  replace HB : Aside0 (Below w.heap.size w w31) := ⟨h9_⟩
                  clear h0_ h1_ h2_ h3_ h4_ h5_ h6_ h7_ h8_ h9_
                  have hHeld : w31.cell? ⟨gb214, 0, none⟩ = some (.int .i64 a0_0) ∧ w31.cell? ⟨gb214, 1, none⟩ = some (.int .i64 a0_1) ∧ w31.cell? ⟨gb214, 2, none⟩ = some (.int .i64 a0_2) ∧ w31.cell? ⟨gb214, 3, none⟩ = some (.int .i64 a0_3) ∧ w31.cell? ⟨gb215, 0, none⟩ = some (.int .i64 a1_0) ∧ w31.cell? ⟨gb215, 1, none⟩ = some (.int .i64 a1_1) ∧ w31.cell? ⟨gb215, 2, none⟩ = some (.int .i64 a1_2) ∧ w31.cell? ⟨gb215, 3, none⟩ = some (.int .i64 a1_3) := hS_
                  refine norm_ (a' := ?_) ?_ ?_
                  rotate_left
                  ·simp only [putAll, Act.put, List.setIfInBounds_toArray, List.set_cons_zero, List.set_cons_succ]
                   rfl
                  refine three_ (i := 4) (j := 5) (k := 7) (Ni := some 7) (Nj := some 8) (Nk := some 10) #[true, true, true, true, true, false, true, false, false, false, false, false] #[true, true, true, true, false, true, true, false, false, false, false, false] #[true, true, true, true, false, false, true, true, false, false, false, false] rfl rfl rfl rfl rfl rfl (three_of HT_.out (by kernel_rfl)) (by decide) (by decide) (by decide) (fun K hK => ?_) (fun K hK => ?_) (fun K hK => ?_)
                  ·skip
                   refine box_step ?hg (N := 7) ?hd (cs := #[.int .i64 0, .int .i64 0, .int .i64 0, .int .i64 0]) (t := 23) ?hr ?_; (case hd => rfl); (case hg => rfl); (case hr => first | (go_simp; done) | (go_simp; rfl))
                   intro gb220 hg w32 hbox hb
                   have BK220 := Aside0.mk (hbox)
                   have GW220 := sW (w := w) hg (mBs HB.out)
                   have GE220 := sW (w := w) hg (mBs HB.out)
                   have NB214_220 := sL hg (mBK BK214.out)
                   have NB220_214 := sG hg (mBK BK214.out)
                   have NB215_220 := sL hg (mBK BK215.out)
                   have NB220_215 := sG hg (mBK BK215.out)
                   have NB222_220 := sL hg (mBK BK222.out)
                   have NB220_222 := sG hg (mBK BK222.out)
                   replace BK214 := sB hb (mBK BK214.out)
                   replace BK215 := sB hb (mBK BK215.out)
                   replace BK222 := sB hb (mBK BK222.out)
                   replace HB := Aside0.mk (below_step (mBs HB.out) hb)
                   clear hb hbox hg
                   refine hK.out _ _ ⟨bc BK214 0, bc BK214 1, bc BK214 2, bc BK214 3, bc BK215 0, bc BK215 1, bc BK215 2, bc BK215 3⟩ (fun hHeld => ?_)
                   clear hK; clear K
                   refine norm_ (a' := ?_) ?_ ?_
                   rotate_left
                   ·show Act.put _ (some 7) _ = _
                    simp only [Act.put, List.setIfInBounds_toArray, List.set_cons_zero, List.set_cons_succ, i64_w, i32_w]
                    rfl
                   exact mN norm_ (hJ4_6 (gb220, gb222) _ ⟨hHeld, (mBK BK214.out), (mBK BK215.out), (mBK BK220.out), (mBK BK222.out), GW220.out, GE220.out, NB214_220.out, NB220_214.out, NB215_220.out, NB220_215.out, NB222_220.out, NB220_222.out, GW222.out, GE222.out, NB214_222.out, NB222_214.out, NB215_222.out, NB222_215.out, (mBs HB.out)⟩)
                  ·skip
                   refine box_step ?hg (N := 8) ?hd (cs := #[.int .i64 0, .int .i64 0, .int .i64 0, .int .i64 0]) (t := 23) ?hr ?_; (case hd => rfl); (case hg => rfl); (case hr => first | (go_simp; done) | (go_simp; rfl))
                   intro gb221 hg w32 hbox hb
                   have BK221 := Aside0.mk (hbox)
                   have GW221 := sW (w := w) hg (mBs HB.out)
                   have GE221 := sW (w := w) hg (mBs HB.out)
                   have NB214_221 := sL hg (mBK BK214.out)
                   have NB221_214 := sG hg (mBK BK214.out)
                   have NB215_221 := sL hg (mBK BK215.out)
                   have NB221_215 := sG hg (mBK BK215.out)
                   have NB222_221 := sL hg (mBK BK222.out)
                   have NB221_222 := sG hg (mBK BK222.out)
                   replace BK214 := sB hb (mBK BK214.out)
                   replace BK215 := sB hb (mBK BK215.out)
                   replace BK222 := sB hb (mBK BK222.out)
                   replace HB := Aside0.mk (below_step (mBs HB.out) hb)
                   clear hb hbox hg
                   refine hK.out _ _ ⟨bc BK214 0, bc BK214 1, bc BK214 2, bc BK214 3, bc BK215 0, bc BK215 1, bc BK215 2, bc BK215 3⟩ (fun hHeld => ?_)
                   clear hK; clear K
                   refine norm_ (a' := ?_) ?_ ?_
                   rotate_left
                   ·show Act.put _ (some 8) _ = _
                    simp only [Act.put, List.setIfInBounds_toArray, List.set_cons_zero, List.set_cons_succ, i64_w, i32_w]
                    rfl
                   exact mN norm_ (hJ5_6 (gb221, gb222) _ ⟨hHeld, (mBK BK214.out), (mBK BK215.out), (mBK BK221.out), (mBK BK222.out), GW221.out, GE221.out, NB214_221.out, NB221_214.out, NB215_221.out, NB221_215.out, NB222_221.out, NB221_222.out, GW222.out, GE222.out, NB214_222.out, NB222_214.out, NB215_222.out, NB222_215.out, (mBs HB.out)⟩)
                  ·skip
                   refine box_step ?hg (N := 10) ?hd (cs := #[.int .i64 0, .int .i64 0, .int .i64 0, .int .i64 0]) (t := 23) ?hr ?_; (case hd => rfl); (case hg => rfl); (case hr => first | (go_simp; done) | (go_simp; rfl))
                   intro gb223 hg w32 hbox hb
                   have BK223 := Aside0.mk (hbox)
                   have GW223 := sW (w := w) hg (mBs HB.out)
                   have GE223 := sW (w := w) hg (mBs HB.out)
                   have NB214_223 := sL hg (mBK BK214.out)
                   have NB223_214 := sG hg (mBK BK214.out)
                   have NB215_223 := sL hg (mBK BK215.out)
                   have NB223_215 := sG hg (mBK BK215.out)
                   have NB222_223 := sL hg (mBK BK222.out)
                   have NB223_222 := sG hg (mBK BK222.out)
                   replace BK214 := sB hb (mBK BK214.out)
                   replace BK215 := sB hb (mBK BK215.out)
                   replace BK222 := sB hb (mBK BK222.out)
                   replace HB := Aside0.mk (below_step (mBs HB.out) hb)
                   clear hb hbox hg
                   refine hK.out _ _ ⟨bc BK214 0, bc BK214 1, bc BK214 2, bc BK214 3, bc BK215 0, bc BK215 1, bc BK215 2, bc BK215 3⟩ (fun hHeld => ?_)
                   clear hK; clear K
                   refine norm_ (a' := ?_) ?_ ?_
                   rotate_left
                   ·show Act.put _ (some 10) _ = _
                    simp only [Act.put, List.setIfInBounds_toArray, List.set_cons_zero, List.set_cons_succ, i64_w, i32_w]
                    rfl
                   exact mN norm_ (hJ6_7 (gb222, gb223) _ ⟨hHeld, (mBK BK214.out), (mBK BK215.out), (mBK BK222.out), (mBK BK223.out), GW222.out, GE222.out, NB214_222.out, NB222_214.out, NB215_222.out, NB222_215.out, NB223_222.out, NB222_223.out, GW223.out, GE223.out, NB214_223.out, NB223_214.out, NB215_223.out, NB223_215.out, (mBs HB.out)⟩)
                ·skip
                 rintro gb221 w31 ⟨hS_, h0_, h1_, h2_, h3_, h4_, h5_, h6_, h7_, h8_, h9_⟩
                 have BK221 : Aside0 (w31.heap[gb221]? = some (.cells #[.int .i64 0, .int .i64 0, .int .i64 0, .int .i64 0] 23 (0, 0))) := ⟨h2_⟩
                 have GW221 : Aside0 (w.heap.size ≤ gb221) := ⟨h3_⟩
                 have GE221 : Aside0 (w.heap.size ≤ gb221) := ⟨h4_⟩
                 have NB214_221 : Aside0 (gb214 ≠ gb221) := ⟨h5_⟩
                 have NB221_214 : Aside0 (gb221 ≠ gb214) := ⟨h6_⟩
                 have NB215_221 : Aside0 (gb215 ≠ gb221) := ⟨h7_⟩
                 have NB221_215 : Aside0 (gb221 ≠ gb215) := ⟨h8_⟩
                 replace BK214 : Aside0 (w31.heap[gb214]? = some (.cells #[.int .i64 a0_0, .int .i64 a0_1, .int .i64 a0_2, .int .i64 a0_3] 23 (0, 0))) := ⟨h0_⟩
                 replace BK215 : Aside0 (w31.heap[gb215]? = some (.cells #[.int .i64 a1_0, .int .i64 a1_1, .int .i64 a1_2, .int .i64 a1_3] 23 (0, 0))) := ⟨h1_⟩
                 replace HB : Aside0 (Below w.heap.size w w31) := ⟨h9_⟩
                 clear h0_ h1_ h2_ h3_ h4_ h5_ h6_ h7_ h8_ h9_
                 have hHeld : w31.cell? ⟨gb214, 0, none⟩ = some (.int .i64 a0_0) ∧ w31.cell? ⟨gb214, 1, none⟩ = some (.int .i64 a0_1) ∧ w31.cell? ⟨gb214, 2, none⟩ = some (.int .i64 a0_2) ∧ w31.cell? ⟨gb214, 3, none⟩ = some (.int .i64 a0_3) ∧ w31.cell? ⟨gb215, 0, none⟩ = some (.int .i64 a1_0) ∧ w31.cell? ⟨gb215, 1, none⟩ = some (.int .i64 a1_1) ∧ w31.cell? ⟨gb215, 2, none⟩ = some (.int .i64 a1_2) ∧ w31.cell? ⟨gb215, 3, none⟩ = some (.int .i64 a1_3) := hS_
                 refine norm_ (a' := ?_) ?_ ?_
                 rotate_left
                 ·simp only [putAll, Act.put, List.setIfInBounds_toArray, List.set_cons_zero, List.set_cons_succ]
                  rfl
                 refine three_ (i := 4) (j := 6) (k := 7) (Ni := some 7) (Nj := some 9) (Nk := some 10) #[true, true, true, true, true, true, false, false, false, false, false, false] #[true, true, true, true, false, true, true, false, false, false, false, false] #[true, true, true, true, false, true, false, true, false, false, false, false] rfl rfl rfl rfl rfl rfl (three_of HT_.out (by kernel_rfl)) (by decide) (by decide) (by decide) (fun K hK => ?_) (fun K hK => ?_) (fun K hK => ?_)
                 ·skip
                  refine box_step ?hg (N := 7) ?hd (cs := #[.int .i64 0, .int .i64 0, .int .i64 0, .int .i64 0]) (t := 23) ?hr ?_; (case hd => rfl); (case hg => rfl); (case hr => first | (go_simp; done) | (go_simp; rfl))
                  intro gb220 hg w32 hbox hb
                  have BK220 := Aside0.mk (hbox)
                  have GW220 := sW (w := w) hg (mBs HB.out)
                  have GE220 := sW (w := w) hg (mBs HB.out)
                  have NB214_220 := sL hg (mBK BK214.out)
                  have NB220_214 := sG hg (mBK BK214.out)
                  have NB215_220 := sL hg (mBK BK215.out)
                  have NB220_215 := sG hg (mBK BK215.out)
                  have NB221_220 := sL hg (mBK BK221.out)
                  have NB220_221 := sG hg (mBK BK221.out)
                  replace BK214 := sB hb (mBK BK214.out)
                  replace BK215 := sB hb (mBK BK215.out)
                  replace BK221 := sB hb (mBK BK221.out)
                  replace HB := Aside0.mk (below_step (mBs HB.out) hb)
                  clear hb hbox hg
                  refine hK.out _ _ ⟨bc BK214 0, bc BK214 1, bc BK214 2, bc BK214 3, bc BK215 0, bc BK215 1, bc BK215 2, bc BK215 3⟩ (fun hHeld => ?_)
                  clear hK; clear K
                  refine norm_ (a' := ?_) ?_ ?_
                  rotate_left
                  ·show Act.put _ (some 7) _ = _
                   simp only [Act.put, List.setIfInBounds_toArray, List.set_cons_zero, List.set_cons_succ, i64_w, i32_w]
                   rfl
                  exact mN norm_ (hJ4_5 (gb220, gb221) _ ⟨hHeld, (mBK BK214.out), (mBK BK215.out), (mBK BK220.out), (mBK BK221.out), GW220.out, GE220.out, NB214_220.out, NB220_214.out, NB215_220.out, NB220_215.out, NB221_220.out, NB220_221.out, GW221.out, GE221.out, NB214_221.out, NB221_214.out, NB215_221.out, NB221_215.out, (mBs HB.out)⟩)
                 ·skip
                  refine box_step ?hg (N := 9) ?hd (cs := #[.int .i64 0, .int .i64 0, .int .i64 0, .int .i64 0]) (t := 23) ?hr ?_; (case hd => rfl); (case hg => rfl); (case hr => first | (go_simp; done) | (go_simp; rfl))
                  intro gb222 hg w32 hbox hb
                  have BK222 := Aside0.mk (hbox)
                  have GW222 := sW (w := w) hg (mBs HB.out)
                  have GE222 := sW (w := w) hg (mBs HB.out)
                  have NB214_222 := sL hg (mBK BK214.out)
                  have NB222_214 := sG hg (mBK BK214.out)
                  have NB215_222 := sL hg (mBK BK215.out)
                  have NB222_215 := sG hg (mBK BK215.out)
                  have NB221_222 := sL hg (mBK BK221.out)
                  have NB222_221 := sG hg (mBK BK221.out)
                  replace BK214 := sB hb (mBK BK214.out)
                  replace BK215 := sB hb (mBK BK215.out)
                  replace BK221 := sB hb (mBK BK221.out)
                  replace HB := Aside0.mk (below_step (mBs HB.out) hb)
                  clear hb hbox hg
                  refine hK.out _ _ ⟨bc BK214 0, bc BK214 1, bc BK214 2, bc BK214 3, bc BK215 0, bc BK215 1, bc BK215 2, bc BK215 3⟩ (fun hHeld => ?_)
                  clear hK; clear K
                  refine norm_ (a' := ?_) ?_ ?_
                  rotate_left
                  ·show Act.put _ (some 9) _ = _
                   simp only [Act.put, List.setIfInBounds_toArray, List.set_cons_zero, List.set_cons_succ, i64_w, i32_w]
                   rfl
                  exact mN norm_ (hJ5_6 (gb221, gb222) _ ⟨hHeld, (mBK BK214.out), (mBK BK215.out), (mBK BK221.out), (mBK BK222.out), GW221.out, GE221.out, NB214_221.out, NB221_214.out, NB215_221.out, NB221_215.out, NB222_221.out, NB221_222.out, GW222.out, GE222.out, NB214_222.out, NB222_214.out, NB215_222.out, NB222_215.out, (mBs HB.out)⟩)
                 ·skip
                  refine box_step ?hg (N := 10) ?hd (cs := #[.int .i64 0, .int .i64 0, .int .i64 0, .int .i64 0]) (t := 23) ?hr ?_; (case hd => rfl); (case hg => rfl); (case hr => first | (go_simp; done) | (go_simp; rfl))
                  intro gb223 hg w32 hbox hb
                  have BK223 := Aside0.mk (hbox)
                  have GW223 := sW (w := w) hg (mBs HB.out)
                  have GE223 := sW (w := w) hg (mBs HB.out)
                  have NB214_223 := sL hg (mBK BK214.out)
                  have NB223_214 := sG hg (mBK BK214.out)
                  have NB215_223 := sL hg (mBK BK215.out)
                  have NB223_215 := sG hg (mBK BK215.out)
                  have NB221_223 := sL hg (mBK BK221.out)
                  have NB223_221 := sG hg (mBK BK221.out)
                  replace BK214 := sB hb (mBK BK214.out)
                  replace BK215 := sB hb (mBK BK215.out)
                  replace BK221 := sB hb (mBK BK221.out)
                  replace HB := Aside0.mk (below_step (mBs HB.out) hb)
                  clear hb hbox hg
                  refine hK.out _ _ ⟨bc BK214 0, bc BK214 1, bc BK214 2, bc BK214 3, bc BK215 0, bc BK215 1, bc BK215 2, bc BK215 3⟩ (fun hHeld => ?_)
                  clear hK; clear K
                  refine norm_ (a' := ?_) ?_ ?_
                  rotate_left
                  ·show Act.put _ (some 10) _ = _
                   simp only [Act.put, List.setIfInBounds_toArray, List.set_cons_zero, List.set_cons_succ, i64_w, i32_w]
                   rfl
                  exact mN norm_ (hJ5_7 (gb221, gb223) _ ⟨hHeld, (mBK BK214.out), (mBK BK215.out), (mBK BK221.out), (mBK BK223.out), GW221.out, GE221.out, NB214_221.out, NB221_214.out, NB215_221.out, NB221_215.out, NB223_221.out, NB221_223.out, GW223.out, GE223.out, NB214_223.out, NB223_214.out, NB215_223.out, NB223_215.out, (mBs HB.out)⟩)
               ·skip
                rintro gb220 w31 ⟨hS_, h0_, h1_, h2_, h3_, h4_, h5_, h6_, h7_, h8_, h9_⟩
                have BK220 : Aside0 (w31.heap[gb220]? = some (.cells #[.int .i64 0, .int .i64 0, .int .i64 0, .int .i64 0] 23 (0, 0))) := ⟨h2_⟩
                have GW220 : Aside0 (w.heap.size ≤ gb220) := ⟨h3_⟩
                have GE220 : Aside0 (w.heap.size ≤ gb220) := ⟨h4_⟩
                have NB214_220 : Aside0 (gb214 ≠ gb220) := ⟨h5_⟩
                have NB220_214 : Aside0 (gb220 ≠ gb214) := ⟨h6_⟩
                have NB215_220 : Aside0 (gb215 ≠ gb220) := ⟨h7_⟩
                have NB220_215 : Aside0 (gb220 ≠ gb215) := ⟨h8_⟩
                replace BK214 : Aside0 (w31.heap[gb214]? = some (.cells #[.int .i64 a0_0, .int .i64 a0_1, .int .i64 a0_2, .int .i64 a0_3] 23 (0, 0))) := ⟨h0_⟩
                replace BK215 : Aside0 (w31.heap[gb215]? = some (.cells #[.int .i64 a1_0, .int .i64 a1_1, .int .i64 a1_2, .int .i64 a1_3] 23 (0, 0))) := ⟨h1_⟩
                replace HB : Aside0 (Below w.heap.size w w31) := ⟨h9_⟩
                clear h0_ h1_ h2_ h3_ h4_ h5_ h6_ h7_ h8_ h9_
                have hHeld : w31.cell? ⟨gb214, 0, none⟩ = some (.int .i64 a0_0) ∧ w31.cell? ⟨gb214, 1, none⟩ = some (.int .i64 a0_1) ∧ w31.cell? ⟨gb214, 2, none⟩ = some (.int .i64 a0_2) ∧ w31.cell? ⟨gb214, 3, none⟩ = some (.int .i64 a0_3) ∧ w31.cell? ⟨gb215, 0, none⟩ = some (.int .i64 a1_0) ∧ w31.cell? ⟨gb215, 1, none⟩ = some (.int .i64 a1_1) ∧ w31.cell? ⟨gb215, 2, none⟩ = some (.int .i64 a1_2) ∧ w31.cell? ⟨gb215, 3, none⟩ = some (.int .i64 a1_3) := hS_
                refine norm_ (a' := ?_) ?_ ?_
                rotate_left
                ·simp only [putAll, Act.put, List.setIfInBounds_toArray, List.set_cons_zero, List.set_cons_succ]
                 rfl
                refine three_ (i := 5) (j := 6) (k := 7) (Ni := some 8) (Nj := some 9) (Nk := some 10) #[true, true, true, true, true, true, false, false, false, false, false, false] #[true, true, true, true, true, false, true, false, false, false, false, false] #[true, true, true, true, true, false, false, true, false, false, false, false] rfl rfl rfl rfl rfl rfl (three_of HT_.out (by kernel_rfl)) (by decide) (by decide) (by decide) (fun K hK => ?_) (fun K hK => ?_) (fun K hK => ?_)
                ·skip
                 refine box_step ?hg (N := 8) ?hd (cs := #[.int .i64 0, .int .i64 0, .int .i64 0, .int .i64 0]) (t := 23) ?hr ?_; (case hd => rfl); (case hg => rfl); (case hr => first | (go_simp; done) | (go_simp; rfl))
                 intro gb221 hg w32 hbox hb
                 have BK221 := Aside0.mk (hbox)
                 have GW221 := sW (w := w) hg (mBs HB.out)
                 have GE221 := sW (w := w) hg (mBs HB.out)
                 have NB214_221 := sL hg (mBK BK214.out)
                 have NB221_214 := sG hg (mBK BK214.out)
                 have NB215_221 := sL hg (mBK BK215.out)
                 have NB221_215 := sG hg (mBK BK215.out)
                 have NB220_221 := sL hg (mBK BK220.out)
                 have NB221_220 := sG hg (mBK BK220.out)
                 replace BK214 := sB hb (mBK BK214.out)
                 replace BK215 := sB hb (mBK BK215.out)
                 replace BK220 := sB hb (mBK BK220.out)
                 replace HB := Aside0.mk (below_step (mBs HB.out) hb)
                 clear hb hbox hg
                 refine hK.out _ _ ⟨bc BK214 0, bc BK214 1, bc BK214 2, bc BK214 3, bc BK215 0, bc BK215 1, bc BK215 2, bc BK215 3⟩ (fun hHeld => ?_)
                 clear hK; clear K
                 refine norm_ (a' := ?_) ?_ ?_
                 rotate_left
                 ·show Act.put _ (some 8) _ = _
                  simp only [Act.put, List.setIfInBounds_toArray, List.set_cons_zero, List.set_cons_succ, i64_w, i32_w]
                  rfl
                 exact mN norm_ (hJ4_5 (gb220, gb221) _ ⟨hHeld, (mBK BK214.out), (mBK BK215.out), (mBK BK220.out), (mBK BK221.out), GW220.out, GE220.out, NB214_220.out, NB220_214.out, NB215_220.out, NB220_215.out, NB221_220.out, NB220_221.out, GW221.out, GE221.out, NB214_221.out, NB221_214.out, NB215_221.out, NB221_215.out, (mBs HB.out)⟩)
                ·skip
                 refine box_step ?hg (N := 9) ?hd (cs := #[.int .i64 0, .int .i64 0, .int .i64 0, .int .i64 0]) (t := 23) ?hr ?_; (case hd => rfl); (case hg => rfl); (case hr => first | (go_simp; done) | (go_simp; rfl))
                 intro gb222 hg w32 hbox hb
                 have BK222 := Aside0.mk (hbox)
                 have GW222 := sW (w := w) hg (mBs HB.out)
                 have GE222 := sW (w := w) hg (mBs HB.out)
                 have NB214_222 := sL hg (mBK BK214.out)
                 have NB222_214 := sG hg (mBK BK214.out)
                 have NB215_222 := sL hg (mBK BK215.out)
                 have NB222_215 := sG hg (mBK BK215.out)
                 have NB220_222 := sL hg (mBK BK220.out)
                 have NB222_220 := sG hg (mBK BK220.out)
                 replace BK214 := sB hb (mBK BK214.out)
                 replace BK215 := sB hb (mBK BK215.out)
                 replace BK220 := sB hb (mBK BK220.out)
                 replace HB := Aside0.mk (below_step (mBs HB.out) hb)
                 clear hb hbox hg
                 refine hK.out _ _ ⟨bc BK214 0, bc BK214 1, bc BK214 2, bc BK214 3, bc BK215 0, bc BK215 1, bc BK215 2, bc BK215 3⟩ (fun hHeld => ?_)
                 clear hK; clear K
                 refine norm_ (a' := ?_) ?_ ?_
                 rotate_left
                 ·show Act.put _ (some 9) _ = _
                  simp only [Act.put, List.setIfInBounds_toArray, List.set_cons_zero, List.set_cons_succ, i64_w, i32_w]
                  rfl
                 exact mN norm_ (hJ4_6 (gb220, gb222) _ ⟨hHeld, (mBK BK214.out), (mBK BK215.out), (mBK BK220.out), (mBK BK222.out), GW220.out, GE220.out, NB214_220.out, NB220_214.out, NB215_220.out, NB220_215.out, NB222_220.out, NB220_222.out, GW222.out, GE222.out, NB214_222.out, NB222_214.out, NB215_222.out, NB222_215.out, (mBs HB.out)⟩)
                ·skip
                 refine box_step ?hg (N := 10) ?hd (cs := #[.int .i64 0, .int .i64 0, .int .i64 0, .int .i64 0]) (t := 23) ?hr ?_; (case hd => rfl); (case hg => rfl); (case hr => first | (go_simp; done) | (go_simp; rfl))
                 intro gb223 hg w32 hbox hb
                 have BK223 := Aside0.mk (hbox)
                 have GW223 := sW (w := w) hg (mBs HB.out)
                 have GE223 := sW (w := w) hg (mBs HB.out)
                 have NB214_223 := sL hg (mBK BK214.out)
                 have NB223_214 := sG hg (mBK BK214.out)
                 have NB215_223 := sL hg (mBK BK215.out)
                 have NB223_215 := sG hg (mBK BK215.out)
                 have NB220_223 := sL hg (mBK BK220.out)
                 have NB223_220 := sG hg (mBK BK220.out)
                 replace BK214 := sB hb (mBK BK214.out)
                 replace BK215 := sB hb (mBK BK215.out)
                 replace BK220 := sB hb (mBK BK220.out)
                 replace HB := Aside0.mk (below_step (mBs HB.out) hb)
                 clear hb hbox hg
                 refine hK.out _ _ ⟨bc BK214 0, bc BK214 1, bc BK214 2, bc BK214 3, bc BK215 0, bc BK215 1, bc BK215 2, bc BK215 3⟩ (fun hHeld => ?_)
                 clear hK; clear K
                 refine norm_ (a' := ?_) ?_ ?_
                 rotate_left
                 ·show Act.put _ (some 10) _ = _
                  simp only [Act.put, List.setIfInBounds_toArray, List.set_cons_zero, List.set_cons_succ, i64_w, i32_w]
                  rfl
                 exact mN norm_ (hJ4_7 (gb220, gb223) _ ⟨hHeld, (mBK BK214.out), (mBK BK215.out), (mBK BK220.out), (mBK BK223.out), GW220.out, GE220.out, NB214_220.out, NB220_214.out, NB215_220.out, NB220_215.out, NB223_220.out, NB220_223.out, GW223.out, GE223.out, NB214_223.out, NB223_214.out, NB215_223.out, NB223_215.out, (mBs HB.out)⟩)
              ·skip
               rintro ⟨gb222, gb223⟩ w32 ⟨hS_, h0_, h1_, h2_, h3_, h4_, h5_, h6_, h7_, h8_, h9_, h10_, h11_, h12_, h13_, h14_, h15_, h16_, h17_, h18_⟩
               have BK222 : Aside0 (w32.heap[gb222]? = some (.cells #[.int .i64 0, .int .i64 0, .int .i64 0, .int .i64 0] 23 (0, 0))) := ⟨h2_⟩
               have BK223 : Aside0 (w32.heap[gb223]? = some (.cells #[.int .i64 0, .int .i64 0, .int .i64 0, .int .i64 0] 23 (0, 0))) := ⟨h3_⟩
               have GW222 : Aside0 (w.heap.size ≤ gb222) := ⟨h4_⟩
               have GE222 : Aside0 (w.heap.size ≤ gb222) := ⟨h5_⟩
               have NB214_222 : Aside0 (gb214 ≠ gb222) := ⟨h6_⟩
               have NB222_214 : Aside0 (gb222 ≠ gb214) := ⟨h7_⟩
               have NB215_222 : Aside0 (gb215 ≠ gb222) := ⟨h8_⟩
               have NB222_215 : Aside0 (gb222 ≠ gb215) := ⟨h9_⟩
               have NB223_222 : Aside0 (gb223 ≠ gb222) := ⟨h10_⟩
               have NB222_223 : Aside0 (gb222 ≠ gb223) := ⟨h11_⟩
               have GW223 : Aside0 (w.heap.size ≤ gb223) := ⟨h12_⟩
               have GE223 : Aside0 (w.heap.size ≤ gb223) := ⟨h13_⟩
               have NB214_223 : Aside0 (gb214 ≠ gb223) := ⟨h14_⟩
               have NB223_214 : Aside0 (gb223 ≠ gb214) := ⟨h15_⟩
               have NB215_223 : Aside0 (gb215 ≠ gb223) := ⟨h16_⟩
               have NB223_215 : Aside0 (gb223 ≠ gb215) := ⟨h17_⟩
               replace BK214 : Aside0 (w32.heap[gb214]? = some (.cells #[.int .i64 a0_0, .int .i64 a0_1, .int .i64 a0_2, .int .i64 a0_3] 23 (0, 0))) := ⟨h0_⟩
               replace BK215 : Aside0 (w32.heap[gb215]? = some (.cells #[.int .i64 a1_0, .int .i64 a1_1, .int .i64 a1_2, .int .i64 a1_3] 23 (0, 0))) := ⟨h1_⟩
               replace HB : Aside0 (Below w.heap.size w w32) := ⟨h18_⟩
               clear h0_ h1_ h2_ h3_ h4_ h5_ h6_ h7_ h8_ h9_ h10_ h11_ h12_ h13_ h14_ h15_ h16_ h17_ h18_
               have hHeld : w32.cell? ⟨gb214, 0, none⟩ = some (.int .i64 a0_0) ∧ w32.cell? ⟨gb214, 1, none⟩ = some (.int .i64 a0_1) ∧ w32.cell? ⟨gb214, 2, none⟩ = some (.int .i64 a0_2) ∧ w32.cell? ⟨gb214, 3, none⟩ = some (.int .i64 a0_3) ∧ w32.cell? ⟨gb215, 0, none⟩ = some (.int .i64 a1_0) ∧ w32.cell? ⟨gb215, 1, none⟩ = some (.int .i64 a1_1) ∧ w32.cell? ⟨gb215, 2, none⟩ = some (.int .i64 a1_2) ∧ w32.cell? ⟨gb215, 3, none⟩ = some (.int .i64 a1_3) := hS_
               refine norm_ (a' := ?_) ?_ ?_
               rotate_left
               ·simp only [putAll, Act.put, List.setIfInBounds_toArray, List.set_cons_zero, List.set_cons_succ]
                rfl
               refine two_ (i := 4) (j := 5) (Ni := some 7) (Nj := some 8) #[true, true, true, true, true, false, true, true, false, false, false, false] #[true, true, true, true, false, true, true, true, false, false, false, false] rfl rfl rfl rfl (two_of HT_.out (by kernel_rfl)) (by decide) (by decide) (fun K hK => ?_) (fun K hK => ?_)
               ·skip
                refine box_step ?hg (N := 7) ?hd (cs := #[.int .i64 0, .int .i64 0, .int .i64 0, .int .i64 0]) (t := 23) ?hr ?_; (case hd => rfl); (case hg => rfl); (case hr => first | (go_simp; done) | (go_simp; rfl))
                intro gb220 hg w33 hbox hb
                have BK220 := Aside0.mk (hbox)
                have GW220 := sW (w := w) hg (mBs HB.out)
                have GE220 := sW (w := w) hg (mBs HB.out)
                have NB214_220 := sL hg (mBK BK214.out)
                have NB220_214 := sG hg (mBK BK214.out)
                have NB215_220 := sL hg (mBK BK215.out)
                have NB220_215 := sG hg (mBK BK215.out)
                have NB222_220 := sL hg (mBK BK222.out)
                have NB220_222 := sG hg (mBK BK222.out)
                have NB223_220 := sL hg (mBK BK223.out)
                have NB220_223 := sG hg (mBK BK223.out)
                replace BK214 := sB hb (mBK BK214.out)
                replace BK215 := sB hb (mBK BK215.out)
                replace BK222 := sB hb (mBK BK222.out)
                replace BK223 := sB hb (mBK BK223.out)
                replace HB := Aside0.mk (below_step (mBs HB.out) hb)
                clear hb hbox hg
                refine hK.out _ _ ⟨bc BK214 0, bc BK214 1, bc BK214 2, bc BK214 3, bc BK215 0, bc BK215 1, bc BK215 2, bc BK215 3⟩ (fun hHeld => ?_)
                clear hK; clear K
                refine norm_ (a' := ?_) ?_ ?_
                rotate_left
                ·show Act.put _ (some 7) _ = _
                 simp only [Act.put, List.setIfInBounds_toArray, List.set_cons_zero, List.set_cons_succ, i64_w, i32_w]
                 rfl
                exact mN norm_ (hJ4_6_7 (gb220, gb222, gb223) _ ⟨hHeld, (mBK BK214.out), (mBK BK215.out), (mBK BK220.out), (mBK BK222.out), (mBK BK223.out), GW220.out, GE220.out, NB214_220.out, NB220_214.out, NB215_220.out, NB220_215.out, NB222_220.out, NB220_222.out, NB223_220.out, NB220_223.out, GW222.out, GE222.out, NB214_222.out, NB222_214.out, NB215_222.out, NB222_215.out, NB223_222.out, NB222_223.out, GW223.out, GE223.out, NB214_223.out, NB223_214.out, NB215_223.out, NB223_215.out, (mBs HB.out)⟩)
               ·skip
                refine box_step ?hg (N := 8) ?hd (cs := #[.int .i64 0, .int .i64 0, .int .i64 0, .int .i64 0]) (t := 23) ?hr ?_; (case hd => rfl); (case hg => rfl); (case hr => first | (go_simp; done) | (go_simp; rfl))
                intro gb221 hg w33 hbox hb
                have BK221 := Aside0.mk (hbox)
                have GW221 := sW (w := w) hg (mBs HB.out)
                have GE221 := sW (w := w) hg (mBs HB.out)
                have NB214_221 := sL hg (mBK BK214.out)
                have NB221_214 := sG hg (mBK BK214.out)
                have NB215_221 := sL hg (mBK BK215.out)
                have NB221_215 := sG hg (mBK BK215.out)
                have NB222_221 := sL hg (mBK BK222.out)
                have NB221_222 := sG hg (mBK BK222.out)
                have NB223_221 := sL hg (mBK BK223.out)
                have NB221_223 := sG hg (mBK BK223.out)
                replace BK214 := sB hb (mBK BK214.out)
                replace BK215 := sB hb (mBK BK215.out)
                replace BK222 := sB hb (mBK BK222.out)
                replace BK223 := sB hb (mBK BK223.out)
                replace HB := Aside0.mk (below_step (mBs HB.out) hb)
                clear hb hbox hg
                refine hK.out _ _ ⟨bc BK214 0, bc BK214 1, bc BK214 2, bc BK214 3, bc BK215 0, bc BK215 1, bc BK215 2, bc BK215 3⟩ (fun hHeld => ?_)
                clear hK; clear K
                refine norm_ (a' := ?_) ?_ ?_
                rotate_left
                ·show Act.put _ (some 8) _ = _
                 simp only [Act.put, List.setIfInBounds_toArray, List.set_cons_zero, List.set_cons_succ, i64_w, i32_w]
                 rfl
                exact mN norm_ (hJ5_6_7 (gb221, gb222, gb223) _ ⟨hHeld, (mBK BK214.out), (mBK BK215.out), (mBK BK221.out), (mBK BK222.out), (mBK BK223.out), GW221.out, GE221.out, NB214_221.out, NB221_214.out, NB215_221.out, NB221_215.out, NB222_221.out, NB221_222.out, NB223_221.out, NB221_223.out, GW222.out, GE222.out, NB214_222.out, NB222_214.out, NB215_222.out, NB222_215.out, NB223_222.out, NB222_223.out, GW223.out, GE223.out, NB214_223.out, NB223_214.out, NB215_223.out, NB223_215.out, (mBs HB.out)⟩)
             ·skip
              rintro ⟨gb221, gb223⟩ w32 ⟨hS_, h0_, h1_, h2_, h3_, h4_, h5_, h6_, h7_, h8_, h9_, h10_, h11_, h12_, h13_, h14_, h15_, h16_, h17_, h18_⟩
              have BK221 : Aside0 (w32.heap[gb221]? = some (.cells #[.int .i64 0, .int .i64 0, .int .i64 0, .int .i64 0] 23 (0, 0))) := ⟨h2_⟩
              have BK223 : Aside0 (w32.heap[gb223]? = some (.cells #[.int .i64 0, .int .i64 0, .int .i64 0, .int .i64 0] 23 (0, 0))) := ⟨h3_⟩
              have GW221 : Aside0 (w.heap.size ≤ gb221) := ⟨h4_⟩
              have GE221 : Aside0 (w.heap.size ≤ gb221) := ⟨h5_⟩
              have NB214_221 : Aside0 (gb214 ≠ gb221) := ⟨h6_⟩
              have NB221_214 : Aside0 (gb221 ≠ gb214) := ⟨h7_⟩
              have NB215_221 : Aside0 (gb215 ≠ gb221) := ⟨h8_⟩
              have NB221_215 : Aside0 (gb221 ≠ gb215) := ⟨h9_⟩
              have NB223_221 : Aside0 (gb223 ≠ gb221) := ⟨h10_⟩
              have NB221_223 : Aside0 (gb221 ≠ gb223) := ⟨h11_⟩
              have GW223 : Aside0 (w.heap.size ≤ gb223) := ⟨h12_⟩
              have GE223 : Aside0 (w.heap.size ≤ gb223) := ⟨h13_⟩
              have NB214_223 : Aside0 (gb214 ≠ gb223) := ⟨h14_⟩
              have NB223_214 : Aside0 (gb223 ≠ gb214) := ⟨h15_⟩
              have NB215_223 : Aside0 (gb215 ≠ gb223) := ⟨h16_⟩
              have NB223_215 : Aside0 (gb223 ≠ gb215) := ⟨h17_⟩
              replace BK214 : Aside0 (w32.heap[gb214]? = some (.cells #[.int .i64 a0_0, .int .i64 a0_1, .int .i64 a0_2, .int .i64 a0_3] 23 (0, 0))) := ⟨h0_⟩
              replace BK215 : Aside0 (w32.heap[gb215]? = some (.cells #[.int .i64 a1_0, .int .i64 a1_1, .int .i64 a1_2, .int .i64 a1_3] 23 (0, 0))) := ⟨h1_⟩
              replace HB : Aside0 (Below w.heap.size w w32) := ⟨h18_⟩
              clear h0_ h1_ h2_ h3_ h4_ h5_ h6_ h7_ h8_ h9_ h10_ h11_ h12_ h13_ h14_ h15_ h16_ h17_ h18_
              have hHeld : w32.cell? ⟨gb214, 0, none⟩ = some (.int .i64 a0_0) ∧ w32.cell? ⟨gb214, 1, none⟩ = some (.int .i64 a0_1) ∧ w32.cell? ⟨gb214, 2, none⟩ = some (.int .i64 a0_2) ∧ w32.cell? ⟨gb214, 3, none⟩ = some (.int .i64 a0_3) ∧ w32.cell? ⟨gb215, 0, none⟩ = some (.int .i64 a1_0) ∧ w32.cell? ⟨gb215, 1, none⟩ = some (.int .i64 a1_1) ∧ w32.cell? ⟨gb215, 2, none⟩ = some (.int .i64 a1_2) ∧ w32.cell? ⟨gb215, 3, none⟩ = some (.int .i64 a1_3) := hS_
              refine norm_ (a' := ?_) ?_ ?_
              rotate_left
              ·simp only [putAll, Act.put, List.setIfInBounds_toArray, List.set_cons_zero, List.set_cons_succ]
               rfl
              refine two_ (i := 4) (j := 6) (Ni := some 7) (Nj := some 9) #[true, true, true, true, true, true, false, true, false, false, false, false] #[true, true, true, true, false, true, true, true, false, false, false, false] rfl rfl rfl rfl (two_of HT_.out (by kernel_rfl)) (by decide) (by decide) (fun K hK => ?_) (fun K hK => ?_)
              ·skip
               refine box_step ?hg (N := 7) ?hd (cs := #[.int .i64 0, .int .i64 0, .int .i64 0, .int .i64 0]) (t := 23) ?hr ?_; (case hd => rfl); (case hg => rfl); (case hr => first | (go_simp; done) | (go_simp; rfl))
               intro gb220 hg w33 hbox hb
               have BK220 := Aside0.mk (hbox)
               have GW220 := sW (w := w) hg (mBs HB.out)
               have GE220 := sW (w := w) hg (mBs HB.out)
               have NB214_220 := sL hg (mBK BK214.out)
               have NB220_214 := sG hg (mBK BK214.out)
               have NB215_220 := sL hg (mBK BK215.out)
               have NB220_215 := sG hg (mBK BK215.out)
               have NB221_220 := sL hg (mBK BK221.out)
               have NB220_221 := sG hg (mBK BK221.out)
               have NB223_220 := sL hg (mBK BK223.out)
               have NB220_223 := sG hg (mBK BK223.out)
               replace BK214 := sB hb (mBK BK214.out)
               replace BK215 := sB hb (mBK BK215.out)
               replace BK221 := sB hb (mBK BK221.out)
               replace BK223 := sB hb (mBK BK223.out)
               replace HB := Aside0.mk (below_step (mBs HB.out) hb)
               clear hb hbox hg
               refine hK.out _ _ ⟨bc BK214 0, bc BK214 1, bc BK214 2, bc BK214 3, bc BK215 0, bc BK215 1, bc BK215 2, bc BK215 3⟩ (fun hHeld => ?_)
               clear hK; clear K
               refine norm_ (a' := ?_) ?_ ?_
               rotate_left
               ·show Act.put _ (some 7) _ = _
                simp only [Act.put, List.setIfInBounds_toArray, List.set_cons_zero, List.set_cons_succ, i64_w, i32_w]
                rfl
               exact mN norm_ (hJ4_5_7 (gb220, gb221, gb223) _ ⟨hHeld, (mBK BK214.out), (mBK BK215.out), (mBK BK220.out), (mBK BK221.out), (mBK BK223.out), GW220.out, GE220.out, NB214_220.out, NB220_214.out, NB215_220.out, NB220_215.out, NB221_220.out, NB220_221.out, NB223_220.out, NB220_223.out, GW221.out, GE221.out, NB214_221.out, NB221_214.out, NB215_221.out, NB221_215.out, NB223_221.out, NB221_223.out, GW223.out, GE223.out, NB214_223.out, NB223_214.out, NB215_223.out, NB223_215.out, (mBs HB.out)⟩)
              ·skip
               refine box_step ?hg (N := 9) ?hd (cs := #[.int .i64 0, .int .i64 0, .int .i64 0, .int .i64 0]) (t := 23) ?hr ?_; (case hd => rfl); (case hg => rfl); (case hr => first | (go_simp; done) | (go_simp; rfl))
               intro gb222 hg w33 hbox hb
               have BK222 := Aside0.mk (hbox)
               have GW222 := sW (w := w) hg (mBs HB.out)
               have GE222 := sW (w := w) hg (mBs HB.out)
               have NB214_222 := sL hg (mBK BK214.out)
               have NB222_214 := sG hg (mBK BK214.out)
               have NB215_222 := sL hg (mBK BK215.out)
               have NB222_215 := sG hg (mBK BK215.out)
               have NB221_222 := sL hg (mBK BK221.out)
               have NB222_221 := sG hg (mBK BK221.out)
               have NB223_222 := sL hg (mBK BK223.out)
               have NB222_223 := sG hg (mBK BK223.out)
               replace BK214 := sB hb (mBK BK214.out)
               replace BK215 := sB hb (mBK BK215.out)
               replace BK221 := sB hb (mBK BK221.out)
               replace BK223 := sB hb (mBK BK223.out)
               replace HB := Aside0.mk (below_step (mBs HB.out) hb)
               clear hb hbox hg
               refine hK.out _ _ ⟨bc BK214 0, bc BK214 1, bc BK214 2, bc BK214 3, bc BK215 0, bc BK215 1, bc BK215 2, bc BK215 3⟩ (fun hHeld => ?_)
               clear hK; clear K
               refine norm_ (a' := ?_) ?_ ?_
               rotate_left
               ·show Act.put _ (some 9) _ = _
                simp only [Act.put, List.setIfInBounds_toArray, List.set_cons_zero, List.set_cons_succ, i64_w, i32_w]
                rfl
               exact mN norm_ (hJ5_6_7 (gb221, gb222, gb223) _ ⟨hHeld, (mBK BK214.out), (mBK BK215.out), (mBK BK221.out), (mBK BK222.out), (mBK BK223.out), GW221.out, GE221.out, NB214_221.out, NB221_214.out, NB215_221.out, NB221_215.out, NB222_221.out, NB221_222.out, NB223_221.out, NB221_223.out, GW222.out, GE222.out, NB214_222.out, NB222_214.out, NB215_222.out, NB222_215.out, NB223_222.out, NB222_223.out, GW223.out, GE223.out, NB214_223.out, NB223_214.out, NB215_223.out, NB223_215.out, (mBs HB.out)⟩)
            ·skip
             rintro ⟨gb221, gb222⟩ w32 ⟨hS_, h0_, h1_, h2_, h3_, h4_, h5_, h6_, h7_, h8_, h9_, h10_, h11_, h12_, h13_, h14_, h15_, h16_, h17_, h18_⟩
             have BK221 : Aside0 (w32.heap[gb221]? = some (.cells #[.int .i64 0, .int .i64 0, .int .i64 0, .int .i64 0] 23 (0, 0))) := ⟨h2_⟩
             have BK222 : Aside0 (w32.heap[gb222]? = some (.cells #[.int .i64 0, .int .i64 0, .int .i64 0, .int .i64 0] 23 (0, 0))) := ⟨h3_⟩
             have GW221 : Aside0 (w.heap.size ≤ gb221) := ⟨h4_⟩
             have GE221 : Aside0 (w.heap.size ≤ gb221) := ⟨h5_⟩
             have NB214_221 : Aside0 (gb214 ≠ gb221) := ⟨h6_⟩
             have NB221_214 : Aside0 (gb221 ≠ gb214) := ⟨h7_⟩
             have NB215_221 : Aside0 (gb215 ≠ gb221) := ⟨h8_⟩
             have NB221_215 : Aside0 (gb221 ≠ gb215) := ⟨h9_⟩
             have NB222_221 : Aside0 (gb222 ≠ gb221) := ⟨h10_⟩
             have NB221_222 : Aside0 (gb221 ≠ gb222) := ⟨h11_⟩
             have GW222 : Aside0 (w.heap.size ≤ gb222) := ⟨h12_⟩
             have GE222 : Aside0 (w.heap.size ≤ gb222) := ⟨h13_⟩
             have NB214_222 : Aside0 (gb214 ≠ gb222) := ⟨h14_⟩
             have NB222_214 : Aside0 (gb222 ≠ gb214) := ⟨h15_⟩
             have NB215_222 : Aside0 (gb215 ≠ gb222) := ⟨h16_⟩
             have NB222_215 : Aside0 (gb222 ≠ gb215) := ⟨h17_⟩
             replace BK214 : Aside0 (w32.heap[gb214]? = some (.cells #[.int .i64 a0_0, .int .i64 a0_1, .int .i64 a0_2, .int .i64 a0_3] 23 (0, 0))) := ⟨h0_⟩
             replace BK215 : Aside0 (w32.heap[gb215]? = some (.cells #[.int .i64 a1_0, .int .i64 a1_1, .int .i64 a1_2, .int .i64 a1_3] 23 (0, 0))) := ⟨h1_⟩
             replace HB : Aside0 (Below w.heap.size w w32) := ⟨h18_⟩
             clear h0_ h1_ h2_ h3_ h4_ h5_ h6_ h7_ h8_ h9_ h10_ h11_ h12_ h13_ h14_ h15_ h16_ h17_ h18_
             have hHeld : w32.cell? ⟨gb214, 0, none⟩ = some (.int .i64 a0_0) ∧ w32.cell? ⟨gb214, 1, none⟩ = some (.int .i64 a0_1) ∧ w32.cell? ⟨gb214, 2, none⟩ = some (.int .i64 a0_2) ∧ w32.cell? ⟨gb214, 3, none⟩ = some (.int .i64 a0_3) ∧ w32.cell? ⟨gb215, 0, none⟩ = some (.int .i64 a1_0) ∧ w32.cell? ⟨gb215, 1, none⟩ = some (.int .i64 a1_1) ∧ w32.cell? ⟨gb215, 2, none⟩ = some (.int .i64 a1_2) ∧ w32.cell? ⟨gb215, 3, none⟩ = some (.int .i64 a1_3) := hS_
             refine norm_ (a' := ?_) ?_ ?_
             rotate_left
             ·simp only [putAll, Act.put, List.setIfInBounds_toArray, List.set_cons_zero, List.set_cons_succ]
              rfl
             refine two_ (i := 4) (j := 7) (Ni := some 7) (Nj := some 10) #[true, true, true, true, true, true, true, false, false, false, false, false] #[true, true, true, true, false, true, true, true, false, false, false, false] rfl rfl rfl rfl (two_of HT_.out (by kernel_rfl)) (by decide) (by decide) (fun K hK => ?_) (fun K hK => ?_)
             ·skip
              refine box_step ?hg (N := 7) ?hd (cs := #[.int .i64 0, .int .i64 0, .int .i64 0, .int .i64 0]) (t := 23) ?hr ?_; (case hd => rfl); (case hg => rfl); (case hr => first | (go_simp; done) | (go_simp; rfl))
              intro gb220 hg w33 hbox hb
              have BK220 := Aside0.mk (hbox)
              have GW220 := sW (w := w) hg (mBs HB.out)
              have GE220 := sW (w := w) hg (mBs HB.out)
              have NB214_220 := sL hg (mBK BK214.out)
              have NB220_214 := sG hg (mBK BK214.out)
              have NB215_220 := sL hg (mBK BK215.out)
              have NB220_215 := sG hg (mBK BK215.out)
              have NB221_220 := sL hg (mBK BK221.out)
              have NB220_221 := sG hg (mBK BK221.out)
              have NB222_220 := sL hg (mBK BK222.out)
              have NB220_222 := sG hg (mBK BK222.out)
              replace BK214 := sB hb (mBK BK214.out)
              replace BK215 := sB hb (mBK BK215.out)
              replace BK221 := sB hb (mBK BK221.out)
              replace BK222 := sB hb (mBK BK222.out)
              replace HB := Aside0.mk (below_step (mBs HB.out) hb)
              clear hb hbox hg
              refine hK.out _ _ ⟨bc BK214 0, bc BK214 1, bc BK214 2, bc BK214 3, bc BK215 0, bc BK215 1, bc BK215 2, bc BK215 3⟩ (fun hHeld => ?_)
              clear hK; clear K
              refine norm_ (a' := ?_) ?_ ?_
              rotate_left
              ·show Act.put _ (some 7) _ = _
               simp only [Act.put, List.setIfInBounds_toArray, List.set_cons_zero, List.set_cons_succ, i64_w, i32_w]
               rfl
              exact mN norm_ (hJ4_5_6 (gb220, gb221, gb222) _ ⟨hHeld, (mBK BK214.out), (mBK BK215.out), (mBK BK220.out), (mBK BK221.out), (mBK BK222.out), GW220.out, GE220.out, NB214_220.out, NB220_214.out, NB215_220.out, NB220_215.out, NB221_220.out, NB220_221.out, NB222_220.out, NB220_222.out, GW221.out, GE221.out, NB214_221.out, NB221_214.out, NB215_221.out, NB221_215.out, NB222_221.out, NB221_222.out, GW222.out, GE222.out, NB214_222.out, NB222_214.out, NB215_222.out, NB222_215.out, (mBs HB.out)⟩)
             ·skip
              refine box_step ?hg (N := 10) ?hd (cs := #[.int .i64 0, .int .i64 0, .int .i64 0, .int .i64 0]) (t := 23) ?hr ?_; (case hd => rfl); (case hg => rfl); (case hr => first | (go_simp; done) | (go_simp; rfl))
              intro gb223 hg w33 hbox hb
              have BK223 := Aside0.mk (hbox)
              have GW223 := sW (w := w) hg (mBs HB.out)
              have GE223 := sW (w := w) hg (mBs HB.out)
              have NB214_223 := sL hg (mBK BK214.out)
              have NB223_214 := sG hg (mBK BK214.out)
              have NB215_223 := sL hg (mBK BK215.out)
              have NB223_215 := sG hg (mBK BK215.out)
              have NB221_223 := sL hg (mBK BK221.out)
              have NB223_221 := sG hg (mBK BK221.out)
              have NB222_223 := sL hg (mBK BK222.out)
              have NB223_222 := sG hg (mBK BK222.out)
              replace BK214 := sB hb (mBK BK214.out)
              replace BK215 := sB hb (mBK BK215.out)
              replace BK221 := sB hb (mBK BK221.out)
              replace BK222 := sB hb (mBK BK222.out)
              replace HB := Aside0.mk (below_step (mBs HB.out) hb)
              clear hb hbox hg
              refine hK.out _ _ ⟨bc BK214 0, bc BK214 1, bc BK214 2, bc BK214 3, bc BK215 0, bc BK215 1, bc BK215 2, bc BK215 3⟩ (fun hHeld => ?_)
              clear hK; clear K
              refine norm_ (a' := ?_) ?_ ?_
              rotate_left
              ·show Act.put _ (some 10) _ = _
               simp only [Act.put, List.setIfInBounds_toArray, List.set_cons_zero, List.set_cons_succ, i64_w, i32_w]
               rfl
              exact mN norm_ (hJ5_6_7 (gb221, gb222, gb223) _ ⟨hHeld, (mBK BK214.out), (mBK BK215.out), (mBK BK221.out), (mBK BK222.out), (mBK BK223.out), GW221.out, GE221.out, NB214_221.out, NB221_214.out, NB215_221.out, NB221_215.out, NB222_221.out, NB221_222.out, NB223_221.out, NB221_223.out, GW222.out, GE222.out, NB214_222.out, NB222_214.out, NB215_222.out, NB222_215.out, NB223_222.out, NB222_223.out, GW223.out, GE223.out, NB214_223.out, NB223_214.out, NB215_223.out, NB223_215.out, (mBs HB.out)⟩)
           ·skip
            rintro ⟨gb220, gb223⟩ w32 ⟨hS_, h0_, h1_, h2_, h3_, h4_, h5_, h6_, h7_, h8_, h9_, h10_, h11_, h12_, h13_, h14_, h15_, h16_, h17_, h18_⟩
            have BK220 : Aside0 (w32.heap[gb220]? = some (.cells #[.int .i64 0, .int .i64 0, .int .i64 0, .int .i64 0] 23 (0, 0))) := ⟨h2_⟩
            have BK223 : Aside0 (w32.heap[gb223]? = some (.cells #[.int .i64 0, .int .i64 0, .int .i64 0, .int .i64 0] 23 (0, 0))) := ⟨h3_⟩
            have GW220 : Aside0 (w.heap.size ≤ gb220) := ⟨h4_⟩
            have GE220 : Aside0 (w.heap.size ≤ gb220) := ⟨h5_⟩
            have NB214_220 : Aside0 (gb214 ≠ gb220) := ⟨h6_⟩
            have NB220_214 : Aside0 (gb220 ≠ gb214) := ⟨h7_⟩
            have NB215_220 : Aside0 (gb215 ≠ gb220) := ⟨h8_⟩
            have NB220_215 : Aside0 (gb220 ≠ gb215) := ⟨h9_⟩
            have NB223_220 : Aside0 (gb223 ≠ gb220) := ⟨h10_⟩
            have NB220_223 : Aside0 (gb220 ≠ gb223) := ⟨h11_⟩
            have GW223 : Aside0 (w.heap.size ≤ gb223) := ⟨h12_⟩
            have GE223 : Aside0 (w.heap.size ≤ gb223) := ⟨h13_⟩
            have NB214_223 : Aside0 (gb214 ≠ gb223) := ⟨h14_⟩
            have NB223_214 : Aside0 (gb223 ≠ gb214) := ⟨h15_⟩
            have NB215_223 : Aside0 (gb215 ≠ gb223) := ⟨h16_⟩
            have NB223_215 : Aside0 (gb223 ≠ gb215) := ⟨h17_⟩
            replace BK214 : Aside0 (w32.heap[gb214]? = some (.cells #[.int .i64 a0_0, .int .i64 a0_1, .int .i64 a0_2, .int .i64 a0_3] 23 (0, 0))) := ⟨h0_⟩
            replace BK215 : Aside0 (w32.heap[gb215]? = some (.cells #[.int .i64 a1_0, .int .i64 a1_1, .int .i64 a1_2, .int .i64 a1_3] 23 (0, 0))) := ⟨h1_⟩
            replace HB : Aside0 (Below w.heap.size w w32) := ⟨h18_⟩
            clear h0_ h1_ h2_ h3_ h4_ h5_ h6_ h7_ h8_ h9_ h10_ h11_ h12_ h13_ h14_ h15_ h16_ h17_ h18_
            have hHeld : w32.cell? ⟨gb214, 0, none⟩ = some (.int .i64 a0_0) ∧ w32.cell? ⟨gb214, 1, none⟩ = some (.int .i64 a0_1) ∧ w32.cell? ⟨gb214, 2, none⟩ = some (.int .i64 a0_2) ∧ w32.cell? ⟨gb214, 3, none⟩ = some (.int .i64 a0_3) ∧ w32.cell? ⟨gb215, 0, none⟩ = some (.int .i64 a1_0) ∧ w32.cell? ⟨gb215, 1, none⟩ = some (.int .i64 a1_1) ∧ w32.cell? ⟨gb215, 2, none⟩ = some (.int .i64 a1_2) ∧ w32.cell? ⟨gb215, 3, none⟩ = some (.int .i64 a1_3) := hS_
            refine norm_ (a' := ?_) ?_ ?_
            rotate_left
            ·simp only [putAll, Act.put, List.setIfInBounds_toArray, List.set_cons_zero, List.set_cons_succ]
             rfl
            refine two_ (i := 5) (j := 6) (Ni := some 8) (Nj := some 9) #[true, true, true, true, true, true, false, true, false, false, false, false] #[true, true, true, true, true, false, true, true, false, false, false, false] rfl rfl rfl rfl (two_of HT_.out (by kernel_rfl)) (by decide) (by decide) (fun K hK => ?_) (fun K hK => ?_)
            ·skip
             refine box_step ?hg (N := 8) ?hd (cs := #[.int .i64 0, .int .i64 0, .int .i64 0, .int .i64 0]) (t := 23) ?hr ?_; (case hd => rfl); (case hg => rfl); (case hr => first | (go_simp; done) | (go_simp; rfl))
             intro gb221 hg w33 hbox hb
             have BK221 := Aside0.mk (hbox)
             have GW221 := sW (w := w) hg (mBs HB.out)
             have GE221 := sW (w := w) hg (mBs HB.out)
             have NB214_221 := sL hg (mBK BK214.out)
             have NB221_214 := sG hg (mBK BK214.out)
             have NB215_221 := sL hg (mBK BK215.out)
             have NB221_215 := sG hg (mBK BK215.out)
             have NB220_221 := sL hg (mBK BK220.out)
             have NB221_220 := sG hg (mBK BK220.out)
             have NB223_221 := sL hg (mBK BK223.out)
             have NB221_223 := sG hg (mBK BK223.out)
             replace BK214 := sB hb (mBK BK214.out)
             replace BK215 := sB hb (mBK BK215.out)
             replace BK220 := sB hb (mBK BK220.out)
             replace BK223 := sB hb (mBK BK223.out)
             replace HB := Aside0.mk (below_step (mBs HB.out) hb)
             clear hb hbox hg
             refine hK.out _ _ ⟨bc BK214 0, bc BK214 1, bc BK214 2, bc BK214 3, bc BK215 0, bc BK215 1, bc BK215 2, bc BK215 3⟩ (fun hHeld => ?_)
             clear hK; clear K
             refine norm_ (a' := ?_) ?_ ?_
             rotate_left
             ·show Act.put _ (some 8) _ = _
              simp only [Act.put, List.setIfInBounds_toArray, List.set_cons_zero, List.set_cons_succ, i64_w, i32_w]
              rfl
             exact mN norm_ (hJ4_5_7 (gb220, gb221, gb223) _ ⟨hHeld, (mBK BK214.out), (mBK BK215.out), (mBK BK220.out), (mBK BK221.out), (mBK BK223.out), GW220.out, GE220.out, NB214_220.out, NB220_214.out, NB215_220.out, NB220_215.out, NB221_220.out, NB220_221.out, NB223_220.out, NB220_223.out, GW221.out, GE221.out, NB214_221.out, NB221_214.out, NB215_221.out, NB221_215.out, NB223_221.out, NB221_223.out, GW223.out, GE223.out, NB214_223.out, NB223_214.out, NB215_223.out, NB223_215.out, (mBs HB.out)⟩)
            ·skip
             refine box_step ?hg (N := 9) ?hd (cs := #[.int .i64 0, .int .i64 0, .int .i64 0, .int .i64 0]) (t := 23) ?hr ?_; (case hd => rfl); (case hg => rfl); (case hr => first | (go_simp; done) | (go_simp; rfl))
             intro gb222 hg w33 hbox hb
             have BK222 := Aside0.mk (hbox)
             have GW222 := sW (w := w) hg (mBs HB.out)
             have GE222 := sW (w := w) hg (mBs HB.out)
             have NB214_222 := sL hg (mBK BK214.out)
             have NB222_214 := sG hg (mBK BK214.out)
             have NB215_222 := sL hg (mBK BK215.out)
             have NB222_215 := sG hg (mBK BK215.out)
             have NB220_222 := sL hg (mBK BK220.out)
             have NB222_220 := sG hg (mBK BK220.out)
             have NB223_222 := sL hg (mBK BK223.out)
             have NB222_223 := sG hg (mBK BK223.out)
             replace BK214 := sB hb (mBK BK214.out)
             replace BK215 := sB hb (mBK BK215.out)
             replace BK220 := sB hb (mBK BK220.out)
             replace BK223 := sB hb (mBK BK223.out)
             replace HB := Aside0.mk (below_step (mBs HB.out) hb)
             clear hb hbox hg
             refine hK.out _ _ ⟨bc BK214 0, bc BK214 1, bc BK214 2, bc BK214 3, bc BK215 0, bc BK215 1, bc BK215 2, bc BK215 3⟩ (fun hHeld => ?_)
             clear hK; clear K
             refine norm_ (a' := ?_) ?_ ?_
             rotate_left
             ·show Act.put _ (some 9) _ = _
              simp only [Act.put, List.setIfInBounds_toArray, List.set_cons_zero, List.set_cons_succ, i64_w, i32_w]
              rfl
             exact mN norm_ (hJ4_6_7 (gb220, gb222, gb223) _ ⟨hHeld, (mBK BK214.out), (mBK BK215.out), (mBK BK220.out), (mBK BK222.out), (mBK BK223.out), GW220.out, GE220.out, NB214_220.out, NB220_214.out, NB215_220.out, NB220_215.out, NB222_220.out, NB220_222.out, NB223_220.out, NB220_223.out, GW222.out, GE222.out, NB214_222.out, NB222_214.out, NB215_222.out, NB222_215.out, NB223_222.out, NB222_223.out, GW223.out, GE223.out, NB214_223.out, NB223_214.out, NB215_223.out, NB223_215.out, (mBs HB.out)⟩)
          ·skip
           rintro ⟨gb220, gb222⟩ w32 ⟨hS_, h0_, h1_, h2_, h3_, h4_, h5_, h6_, h7_, h8_, h9_, h10_, h11_, h12_, h13_, h14_, h15_, h16_, h17_, h18_⟩
           have BK220 : Aside0 (w32.heap[gb220]? = some (.cells #[.int .i64 0, .int .i64 0, .int .i64 0, .int .i64 0] 23 (0, 0))) := ⟨h2_⟩
           have BK222 : Aside0 (w32.heap[gb222]? = some (.cells #[.int .i64 0, .int .i64 0, .int .i64 0, .int .i64 0] 23 (0, 0))) := ⟨h3_⟩
           have GW220 : Aside0 (w.heap.size ≤ gb220) := ⟨h4_⟩
           have GE220 : Aside0 (w.heap.size ≤ gb220) := ⟨h5_⟩
           have NB214_220 : Aside0 (gb214 ≠ gb220) := ⟨h6_⟩
           have NB220_214 : Aside0 (gb220 ≠ gb214) := ⟨h7_⟩
           have NB215_220 : Aside0 (gb215 ≠ gb220) := ⟨h8_⟩
           have NB220_215 : Aside0 (gb220 ≠ gb215) := ⟨h9_⟩
           have NB222_220 : Aside0 (gb222 ≠ gb220) := ⟨h10_⟩
           have NB220_222 : Aside0 (gb220 ≠ gb222) := ⟨h11_⟩
           have GW222 : Aside0 (w.heap.size ≤ gb222) := ⟨h12_⟩
           have GE222 : Aside0 (w.heap.size ≤ gb222) := ⟨h13_⟩
           have NB214_222 : Aside0 (gb214 ≠ gb222) := ⟨h14_⟩
           have NB222_214 : Aside0 (gb222 ≠ gb214) := ⟨h15_⟩
           have NB215_222 : Aside0 (gb215 ≠ gb222) := ⟨h16_⟩
           have NB222_215 : Aside0 (gb222 ≠ gb215) := ⟨h17_⟩
           replace BK214 : Aside0 (w32.heap[gb214]? = some (.cells #[.int .i64 a0_0, .int .i64 a0_1, .int .i64 a0_2, .int .i64 a0_3] 23 (0, 0))) := ⟨h0_⟩
           replace BK215 : Aside0 (w32.heap[gb215]? = some (.cells #[.int .i64 a1_0, .int .i64 a1_1, .int .i64 a1_2, .int .i64 a1_3] 23 (0, 0))) := ⟨h1_⟩
           replace HB : Aside0 (Below w.heap.size w w32) := ⟨h18_⟩
           clear h0_ h1_ h2_ h3_ h4_ h5_ h6_ h7_ h8_ h9_ h10_ h11_ h12_ h13_ h14_ h15_ h16_ h17_ h18_
           have hHeld : w32.cell? ⟨gb214, 0, none⟩ = some (.int .i64 a0_0) ∧ w32.cell? ⟨gb214, 1, none⟩ = some (.int .i64 a0_1) ∧ w32.cell? ⟨gb214, 2, none⟩ = some (.int .i64 a0_2) ∧ w32.cell? ⟨gb214, 3, none⟩ = some (.int .i64 a0_3) ∧ w32.cell? ⟨gb215, 0, none⟩ = some (.int .i64 a1_0) ∧ w32.cell? ⟨gb215, 1, none⟩ = some (.int .i64 a1_1) ∧ w32.cell? ⟨gb215, 2, none⟩ = some (.int .i64 a1_2) ∧ w32.cell? ⟨gb215, 3, none⟩ = some (.int .i64 a1_3) := hS_
           refine norm_ (a' := ?_) ?_ ?_
           rotate_left
           ·simp only [putAll, Act.put, List.setIfInBounds_toArray, List.set_cons_zero, List.set_cons_succ]
            rfl
           refine two_ (i := 5) (j := 7) (Ni := some 8) (Nj := some 10) #[true, true, true, true, true, true, true, false, false, false, false, false] #[true, true, true, true, true, false, true, true, false, false, false, false] rfl rfl rfl rfl (two_of HT_.out (by kernel_rfl)) (by decide) (by decide) (fun K hK => ?_) (fun K hK => ?_)
           ·skip
            refine box_step ?hg (N := 8) ?hd (cs := #[.int .i64 0, .int .i64 0, .int .i64 0, .int .i64 0]) (t := 23) ?hr ?_; (case hd => rfl); (case hg => rfl); (case hr => first | (go_simp; done) | (go_simp; rfl))
            intro gb221 hg w33 hbox hb
            have BK221 := Aside0.mk (hbox)
            have GW221 := sW (w := w) hg (mBs HB.out)
            have GE221 := sW (w := w) hg (mBs HB.out)
            have NB214_221 := sL hg (mBK BK214.out)
            have NB221_214 := sG hg (mBK BK214.out)
            have NB215_221 := sL hg (mBK BK215.out)
            have NB221_215 := sG hg (mBK BK215.out)
            have NB220_221 := sL hg (mBK BK220.out)
            have NB221_220 := sG hg (mBK BK220.out)
            have NB222_221 := sL hg (mBK BK222.out)
            have NB221_222 := sG hg (mBK BK222.out)
            replace BK214 := sB hb (mBK BK214.out)
            replace BK215 := sB hb (mBK BK215.out)
            replace BK220 := sB hb (mBK BK220.out)
            replace BK222 := sB hb (mBK BK222.out)
            replace HB := Aside0.mk (below_step (mBs HB.out) hb)
            clear hb hbox hg
            refine hK.out _ _ ⟨bc BK214 0, bc BK214 1, bc BK214 2, bc BK214 3, bc BK215 0, bc BK215 1, bc BK215 2, bc BK215 3⟩ (fun hHeld => ?_)
            clear hK; clear K
            refine norm_ (a' := ?_) ?_ ?_
            rotate_left
            ·show Act.put _ (some 8) _ = _
             simp only [Act.put, List.setIfInBounds_toArray, List.set_cons_zero, List.set_cons_succ, i64_w, i32_w]
             rfl
            exact mN norm_ (hJ4_5_6 (gb220, gb221, gb222) _ ⟨hHeld, (mBK BK214.out), (mBK BK215.out), (mBK BK220.out), (mBK BK221.out), (mBK BK222.out), GW220.out, GE220.out, NB214_220.out, NB220_214.out, NB215_220.out, NB220_215.out, NB221_220.out, NB220_221.out, NB222_220.out, NB220_222.out, GW221.out, GE221.out, NB214_221.out, NB221_214.out, NB215_221.out, NB221_215.out, NB222_221.out, NB221_222.out, GW222.out, GE222.out, NB214_222.out, NB222_214.out, NB215_222.out, NB222_215.out, (mBs HB.out)⟩)
           ·skip
            refine box_step ?hg (N := 10) ?hd (cs := #[.int .i64 0, .int .i64 0, .int .i64 0, .int .i64 0]) (t := 23) ?hr ?_; (case hd => rfl); (case hg => rfl); (case hr => first | (go_simp; done) | (go_simp; rfl))
            intro gb223 hg w33 hbox hb
            have BK223 := Aside0.mk (hbox)
            have GW223 := sW (w := w) hg (mBs HB.out)
            have GE223 := sW (w := w) hg (mBs HB.out)
            have NB214_223 := sL hg (mBK BK214.out)
            have NB223_214 := sG hg (mBK BK214.out)
            have NB215_223 := sL hg (mBK BK215.out)
            have NB223_215 := sG hg (mBK BK215.out)
            have NB220_223 := sL hg (mBK BK220.out)
            have NB223_220 := sG hg (mBK BK220.out)
            have NB222_223 := sL hg (mBK BK222.out)
            have NB223_222 := sG hg (mBK BK222.out)
            replace BK214 := sB hb (mBK BK214.out)
            replace BK215 := sB hb (mBK BK215.out)
            replace BK220 := sB hb (mBK BK220.out)
            replace BK222 := sB hb (mBK BK222.out)
            replace HB := Aside0.mk (below_step (mBs HB.out) hb)
            clear hb hbox hg
            refine hK.out _ _ ⟨bc BK214 0, bc BK214 1, bc BK214 2, bc BK214 3, bc BK215 0, bc BK215 1, bc BK215 2, bc BK215 3⟩ (fun hHeld => ?_)
            clear hK; clear K
            refine norm_ (a' := ?_) ?_ ?_
            rotate_left
            ·show Act.put _ (some 10) _ = _
             simp only [Act.put, List.setIfInBounds_toArray, List.set_cons_zero, List.set_cons_succ, i64_w, i32_w]
             rfl
            exact mN norm_ (hJ4_6_7 (gb220, gb222, gb223) _ ⟨hHeld, (mBK BK214.out), (mBK BK215.out), (mBK BK220.out), (mBK BK222.out), (mBK BK223.out), GW220.out, GE220.out, NB214_220.out, NB220_214.out, NB215_220.out, NB220_215.out, NB222_220.out, NB220_222.out, NB223_220.out, NB220_223.out, GW222.out, GE222.out, NB214_222.out, NB222_214.out, NB215_222.out, NB222_215.out, NB223_222.out, NB222_223.out, GW223.out, GE223.out, NB214_223.out, NB223_214.out, NB215_223.out, NB223_215.out, (mBs HB.out)⟩)
         ·skip
          rintro ⟨gb220, gb221⟩ w32 ⟨hS_, h0_, h1_, h2_, h3_, h4_, h5_, h6_, h7_, h8_, h9_, h10_, h11_, h12_, h13_, h14_, h15_, h16_, h17_, h18_⟩
          have BK220 : Aside0 (w32.heap[gb220]? = some (.cells #[.int .i64 0, .int .i64 0, .int .i64 0, .int .i64 0] 23 (0, 0))) := ⟨h2_⟩
          have BK221 : Aside0 (w32.heap[gb221]? = some (.cells #[.int .i64 0, .int .i64 0, .int .i64 0, .int .i64 0] 23 (0, 0))) := ⟨h3_⟩
          have GW220 : Aside0 (w.heap.size ≤ gb220) := ⟨h4_⟩
          have GE220 : Aside0 (w.heap.size ≤ gb220) := ⟨h5_⟩
          have NB214_220 : Aside0 (gb214 ≠ gb220) := ⟨h6_⟩
          have NB220_214 : Aside0 (gb220 ≠ gb214) := ⟨h7_⟩
          have NB215_220 : Aside0 (gb215 ≠ gb220) := ⟨h8_⟩
          have NB220_215 : Aside0 (gb220 ≠ gb215) := ⟨h9_⟩
          have NB221_220 : Aside0 (gb221 ≠ gb220) := ⟨h10_⟩
          have NB220_221 : Aside0 (gb220 ≠ gb221) := ⟨h11_⟩
          have GW221 : Aside0 (w.heap.size ≤ gb221) := ⟨h12_⟩
          have GE221 : Aside0 (w.heap.size ≤ gb221) := ⟨h13_⟩
          have NB214_221 : Aside0 (gb214 ≠ gb221) := ⟨h14_⟩
          have NB221_214 : Aside0 (gb221 ≠ gb214) := ⟨h15_⟩
          have NB215_221 : Aside0 (gb215 ≠ gb221) := ⟨h16_⟩
          have NB221_215 : Aside0 (gb221 ≠ gb215) := ⟨h17_⟩
          replace BK214 : Aside0 (w32.heap[gb214]? = some (.cells #[.int .i64 a0_0, .int .i64 a0_1, .int .i64 a0_2, .int .i64 a0_3] 23 (0, 0))) := ⟨h0_⟩
          replace BK215 : Aside0 (w32.heap[gb215]? = some (.cells #[.int .i64 a1_0, .int .i64 a1_1, .int .i64 a1_2, .int .i64 a1_3] 23 (0, 0))) := ⟨h1_⟩
          replace HB : Aside0 (Below w.heap.size w w32) := ⟨h18_⟩
          clear h0_ h1_ h2_ h3_ h4_ h5_ h6_ h7_ h8_ h9_ h10_ h11_ h12_ h13_ h14_ h15_ h16_ h17_ h18_
          have hHeld : w32.cell? ⟨gb214, 0, none⟩ = some (.int .i64 a0_0) ∧ w32.cell? ⟨gb214, 1, none⟩ = some (.int .i64 a0_1) ∧ w32.cell? ⟨gb214, 2, none⟩ = some (.int .i64 a0_2) ∧ w32.cell? ⟨gb214, 3, none⟩ = some (.int .i64 a0_3) ∧ w32.cell? ⟨gb215, 0, none⟩ = some (.int .i64 a1_0) ∧ w32.cell? ⟨gb215, 1, none⟩ = some (.int .i64 a1_1) ∧ w32.cell? ⟨gb215, 2, none⟩ = some (.int .i64 a1_2) ∧ w32.cell? ⟨gb215, 3, none⟩ = some (.int .i64 a1_3) := hS_
          refine norm_ (a' := ?_) ?_ ?_
          rotate_left
          ·simp only [putAll, Act.put, List.setIfInBounds_toArray, List.set_cons_zero, List.set_cons_succ]
           rfl
          refine two_ (i := 6) (j := 7) (Ni := some 9) (Nj := some 10) #[true, true, true, true, true, true, true, false, false, false, false, false] #[true, true, true, true, true, true, false, true, false, false, false, false] rfl rfl rfl rfl (two_of HT_.out (by kernel_rfl)) (by decide) (by decide) (fun K hK => ?_) (fun K hK => ?_)
          ·skip
           refine box_step ?hg (N := 9) ?hd (cs := #[.int .i64 0, .int .i64 0, .int .i64 0, .int .i64 0]) (t := 23) ?hr ?_; (case hd => rfl); (case hg => rfl); (case hr => first | (go_simp; done) | (go_simp; rfl))
           intro gb222 hg w33 hbox hb
           have BK222 := Aside0.mk (hbox)
           have GW222 := sW (w := w) hg (mBs HB.out)
           have GE222 := sW (w := w) hg (mBs HB.out)
           have NB214_222 := sL hg (mBK BK214.out)
           have NB222_214 := sG hg (mBK BK214.out)
           have NB215_222 := sL hg (mBK BK215.out)
           have NB222_215 := sG hg (mBK BK215.out)
           have NB220_222 := sL hg (mBK BK220.out)
           have NB222_220 := sG hg (mBK BK220.out)
           have NB221_222 := sL hg (mBK BK221.out)
           have NB222_221 := sG hg (mBK BK221.out)
           replace BK214 := sB hb (mBK BK214.out)
           replace BK215 := sB hb (mBK BK215.out)
           replace BK220 := sB hb (mBK BK220.out)
           replace BK221 := sB hb (mBK BK221.out)
           replace HB := Aside0.mk (below_step (mBs HB.out) hb)
           clear hb hbox hg
           refine hK.out _ _ ⟨bc BK214 0, bc BK214 1, bc BK214 2, bc BK214 3, bc BK215 0, bc BK215 1, bc BK215 2, bc BK215 3⟩ (fun hHeld => ?_)
           clear hK; clear K
           refine norm_ (a' := ?_) ?_ ?_
           rotate_left
           ·show Act.put _ (some 9) _ = _
            simp only [Act.put, List.setIfInBounds_toArray, List.set_cons_zero, List.set_cons_succ, i64_w, i32_w]
            rfl
           exact mN norm_ (hJ4_5_6 (gb220, gb221, gb222) _ ⟨hHeld, (mBK BK214.out), (mBK BK215.out), (mBK BK220.out), (mBK BK221.out), (mBK BK222.out), GW220.out, GE220.out, NB214_220.out, NB220_214.out, NB215_220.out, NB220_215.out, NB221_220.out, NB220_221.out, NB222_220.out, NB220_222.out, GW221.out, GE221.out, NB214_221.out, NB221_214.out, NB215_221.out, NB221_215.out, NB222_221.out, NB221_222.out, GW222.out, GE222.out, NB214_222.out, NB222_214.out, NB215_222.out, NB222_215.out, (mBs HB.out)⟩)
          ·skip
           refine box_step ?hg (N := 10) ?hd (cs := #[.int .i64 0, .int .i64 0, .int .i64 0, .int .i64 0]) (t := 23) ?hr ?_; (case hd => rfl); (case hg => rfl); (case hr => first | (go_simp; done) | (go_simp; rfl))
           intro gb223 hg w33 hbox hb
           have BK223 := Aside0.mk (hbox)
           have GW223 := sW (w := w) hg (mBs HB.out)
           have GE223 := sW (w := w) hg (mBs HB.out)
           have NB214_223 := sL hg (mBK BK214.out)
           have NB223_214 := sG hg (mBK BK214.out)
           have NB215_223 := sL hg (mBK BK215.out)
           have NB223_215 := sG hg (mBK BK215.out)
           have NB220_223 := sL hg (mBK BK220.out)
           have NB223_220 := sG hg (mBK BK220.out)
           have NB221_223 := sL hg (mBK BK221.out)
           have NB223_221 := sG hg (mBK BK221.out)
           replace BK214 := sB hb (mBK BK214.out)
           replace BK215 := sB hb (mBK BK215.out)
           replace BK220 := sB hb (mBK BK220.out)
           replace BK221 := sB hb (mBK BK221.out)
           replace HB := Aside0.mk (below_step (mBs HB.out) hb)
           clear hb hbox hg
           refine hK.out _ _ ⟨bc BK214 0, bc BK214 1, bc BK214 2, bc BK214 3, bc BK215 0, bc BK215 1, bc BK215 2, bc BK215 3⟩ (fun hHeld => ?_)
           clear hK; clear K
           refine norm_ (a' := ?_) ?_ ?_
           rotate_left
           ·show Act.put _ (some 10) _ = _
            simp only [Act.put, List.setIfInBounds_toArray, List.set_cons_zero, List.set_cons_succ, i64_w, i32_w]
            rfl
           exact mN norm_ (hJ4_5_7 (gb220, gb221, gb223) _ ⟨hHeld, (mBK BK214.out), (mBK BK215.out), (mBK BK220.out), (mBK BK221.out), (mBK BK223.out), GW220.out, GE220.out, NB214_220.out, NB220_214.out, NB215_220.out, NB220_215.out, NB221_220.out, NB220_221.out, NB223_220.out, NB220_223.out, GW221.out, GE221.out, NB214_221.out, NB221_214.out, NB215_221.out, NB221_215.out, NB223_221.out, NB221_223.out, GW223.out, GE223.out, NB214_223.out, NB223_214.out, NB215_223.out, NB223_215.out, (mBs HB.out)⟩)
        ·skip
         rintro ⟨gb221, gb222, gb223⟩ w33 ⟨hS_, h0_, h1_, h2_, h3_, h4_, h5_, h6_, h7_, h8_, h9_, h10_, h11_, h12_, h13_, h14_, h15_, h16_, h17_, h18_, h19_, h20_, h21_, h22_, h23_, h24_, h25_, h26_, h27_, h28_, h29_⟩
         have BK221 : Aside0 (w33.heap[gb221]? = some (.cells #[.int .i64 0, .int .i64 0, .int .i64 0, .int .i64 0] 23 (0, 0))) := ⟨h2_⟩
         have BK222 : Aside0 (w33.heap[gb222]? = some (.cells #[.int .i64 0, .int .i64 0, .int .i64 0, .int .i64 0] 23 (0, 0))) := ⟨h3_⟩
         have BK223 : Aside0 (w33.heap[gb223]? = some (.cells #[.int .i64 0, .int .i64 0, .int .i64 0, .int .i64 0] 23 (0, 0))) := ⟨h4_⟩
         have GW221 : Aside0 (w.heap.size ≤ gb221) := ⟨h5_⟩
         have GE221 : Aside0 (w.heap.size ≤ gb221) := ⟨h6_⟩
         have NB214_221 : Aside0 (gb214 ≠ gb221) := ⟨h7_⟩
         have NB221_214 : Aside0 (gb221 ≠ gb214) := ⟨h8_⟩
         have NB215_221 : Aside0 (gb215 ≠ gb221) := ⟨h9_⟩
         have NB221_215 : Aside0 (gb221 ≠ gb215) := ⟨h10_⟩
         have NB222_221 : Aside0 (gb222 ≠ gb221) := ⟨h11_⟩
         have NB221_222 : Aside0 (gb221 ≠ gb222) := ⟨h12_⟩
         have NB223_221 : Aside0 (gb223 ≠ gb221) := ⟨h13_⟩
         have NB221_223 : Aside0 (gb221 ≠ gb223) := ⟨h14_⟩
         have GW222 : Aside0 (w.heap.size ≤ gb222) := ⟨h15_⟩
         have GE222 : Aside0 (w.heap.size ≤ gb222) := ⟨h16_⟩
         have NB214_222 : Aside0 (gb214 ≠ gb222) := ⟨h17_⟩
         have NB222_214 : Aside0 (gb222 ≠ gb214) := ⟨h18_⟩
         have NB215_222 : Aside0 (gb215 ≠ gb222) := ⟨h19_⟩
         have NB222_215 : Aside0 (gb222 ≠ gb215) := ⟨h20_⟩
         have NB223_222 : Aside0 (gb223 ≠ gb222) := ⟨h21_⟩
         have NB222_223 : Aside0 (gb222 ≠ gb223) := ⟨h22_⟩
         have GW223 : Aside0 (w.heap.size ≤ gb223) := ⟨h23_⟩
         have GE223 : Aside0 (w.heap.size ≤ gb223) := ⟨h24_⟩
         have NB214_223 : Aside0 (gb214 ≠ gb223) := ⟨h25_⟩
         have NB223_214 : Aside0 (gb223 ≠ gb214) := ⟨h26_⟩
         have NB215_223 : Aside0 (gb215 ≠ gb223) := ⟨h27_⟩
         have NB223_215 : Aside0 (gb223 ≠ gb215) := ⟨h28_⟩
         replace BK214 : Aside0 (w33.heap[gb214]? = some (.cells #[.int .i64 a0_0, .int .i64 a0_1, .int .i64 a0_2, .int .i64 a0_3] 23 (0, 0))) := ⟨h0_⟩
         replace BK215 : Aside0 (w33.heap[gb215]? = some (.cells #[.int .i64 a1_0, .int .i64 a1_1, .int .i64 a1_2, .int .i64 a1_3] 23 (0, 0))) := ⟨h1_⟩
         replace HB : Aside0 (Below w.heap.size w w33) := ⟨h29_⟩
         clear h0_ h1_ h2_ h3_ h4_ h5_ h6_ h7_ h8_ h9_ h10_ h11_ h12_ h13_ h14_ h15_ h16_ h17_ h18_ h19_ h20_ h21_ h22_ h23_ h24_ h25_ h26_ h27_ h28_ h29_
         have hHeld : w33.cell? ⟨gb214, 0, none⟩ = some (.int .i64 a0_0) ∧ w33.cell? ⟨gb214, 1, none⟩ = some (.int .i64 a0_1) ∧ w33.cell? ⟨gb214, 2, none⟩ = some (.int .i64 a0_2) ∧ w33.cell? ⟨gb214, 3, none⟩ = some (.int .i64 a0_3) ∧ w33.cell? ⟨gb215, 0, none⟩ = some (.int .i64 a1_0) ∧ w33.cell? ⟨gb215, 1, none⟩ = some (.int .i64 a1_1) ∧ w33.cell? ⟨gb215, 2, none⟩ = some (.int .i64 a1_2) ∧ w33.cell? ⟨gb215, 3, none⟩ = some (.int .i64 a1_3) := hS_
         refine norm_ (a' := ?_) ?_ ?_
         rotate_left
         ·simp only [putAll, Act.put, List.setIfInBounds_toArray, List.set_cons_zero, List.set_cons_succ]
          rfl
         refine one_ (i := 4) (N := some 7) #[true, true, true, true, true, true, true, true, false, false, false, false] rfl rfl (one_of HT_.out (by kernel_rfl)) (by decide) (fun K hK => ?_)
         refine box_step ?hg (N := 7) ?hd (cs := #[.int .i64 0, .int .i64 0, .int .i64 0, .int .i64 0]) (t := 23) ?hr ?_; (case hd => rfl); (case hg => rfl); (case hr => first | (go_simp; done) | (go_simp; rfl))
         intro gb220 hg w34 hbox hb
         have BK220 := Aside0.mk (hbox)
         have GW220 := sW (w := w) hg (mBs HB.out)
         have GE220 := sW (w := w) hg (mBs HB.out)
         have NB214_220 := sL hg (mBK BK214.out)
         have NB220_214 := sG hg (mBK BK214.out)
         have NB215_220 := sL hg (mBK BK215.out)
         have NB220_215 := sG hg (mBK BK215.out)
         have NB221_220 := sL hg (mBK BK221.out)
         have NB220_221 := sG hg (mBK BK221.out)
         have NB222_220 := sL hg (mBK BK222.out)
         have NB220_222 := sG hg (mBK BK222.out)
         have NB223_220 := sL hg (mBK BK223.out)
         have NB220_223 := sG hg (mBK BK223.out)
         replace BK214 := sB hb (mBK BK214.out)
         replace BK215 := sB hb (mBK BK215.out)
         replace BK221 := sB hb (mBK BK221.out)
         replace BK222 := sB hb (mBK BK222.out)
         replace BK223 := sB hb (mBK BK223.out)
         replace HB := Aside0.mk (below_step (mBs HB.out) hb)
         clear hb hbox hg
         refine hK.out _ _ ⟨bc BK214 0, bc BK214 1, bc BK214 2, bc BK214 3, bc BK215 0, bc BK215 1, bc BK215 2, bc BK215 3⟩ (fun hHeld => ?_)
         clear hK; clear K
         refine norm_ (a' := ?_) ?_ ?_
         rotate_left
         ·show Act.put _ (some 7) _ = _
          simp only [Act.put, List.setIfInBounds_toArray, List.set_cons_zero, List.set_cons_succ, i64_w, i32_w]
          rfl
         exact mN norm_ (hJ4_5_6_7 (gb220, gb221, gb222, gb223) _ ⟨hHeld, (mBK BK214.out), (mBK BK215.out), (mBK BK220.out), (mBK BK221.out), (mBK BK222.out), (mBK BK223.out), GW220.out, GE220.out, NB214_220.out, NB220_214.out, NB215_220.out, NB220_215.out, NB221_220.out, NB220_221.out, NB222_220.out, NB220_222.out, NB223_220.out, NB220_223.out, GW221.out, GE221.out, NB214_221.out, NB221_214.out, NB215_221.out, NB221_215.out, NB222_221.out, NB221_222.out, NB223_221.out, NB221_223.out, GW222.out, GE222.out, NB214_222.out, NB222_214.out, NB215_222.out, NB222_215.out, NB223_222.out, NB222_223.out, GW223.out, GE223.out, NB214_223.out, NB223_214.out, NB215_223.out, NB223_215.out, (mBs HB.out)⟩)
       ·skip
        rintro ⟨gb220, gb222, gb223⟩ w33 ⟨hS_, h0_, h1_, h2_, h3_, h4_, h5_, h6_, h7_, h8_, h9_, h10_, h11_, h12_, h13_, h14_, h15_, h16_, h17_, h18_, h19_, h20_, h21_, h22_, h23_, h24_, h25_, h26_, h27_, h28_, h29_⟩
        have BK220 : Aside0 (w33.heap[gb220]? = some (.cells #[.int .i64 0, .int .i64 0, .int .i64 0, .int .i64 0] 23 (0, 0))) := ⟨h2_⟩
        have BK222 : Aside0 (w33.heap[gb222]? = some (.cells #[.int .i64 0, .int .i64 0, .int .i64 0, .int .i64 0] 23 (0, 0))) := ⟨h3_⟩
        have BK223 : Aside0 (w33.heap[gb223]? = some (.cells #[.int .i64 0, .int .i64 0, .int .i64 0, .int .i64 0] 23 (0, 0))) := ⟨h4_⟩
        have GW220 : Aside0 (w.heap.size ≤ gb220) := ⟨h5_⟩
        have GE220 : Aside0 (w.heap.size ≤ gb220) := ⟨h6_⟩
        have NB214_220 : Aside0 (gb214 ≠ gb220) := ⟨h7_⟩
        have NB220_214 : Aside0 (gb220 ≠ gb214) := ⟨h8_⟩
        have NB215_220 : Aside0 (gb215 ≠ gb220) := ⟨h9_⟩
        have NB220_215 : Aside0 (gb220 ≠ gb215) := ⟨h10_⟩
        have NB222_220 : Aside0 (gb222 ≠ gb220) := ⟨h11_⟩
        have NB220_222 : Aside0 (gb220 ≠ gb222) := ⟨h12_⟩
        have NB223_220 : Aside0 (gb223 ≠ gb220) := ⟨h13_⟩
        have NB220_223 : Aside0 (gb220 ≠ gb223) := ⟨h14_⟩
        have GW222 : Aside0 (w.heap.size ≤ gb222) := ⟨h15_⟩
        have GE222 : Aside0 (w.heap.size ≤ gb222) := ⟨h16_⟩
        have NB214_222 : Aside0 (gb214 ≠ gb222) := ⟨h17_⟩
        have NB222_214 : Aside0 (gb222 ≠ gb214) := ⟨h18_⟩
        have NB215_222 : Aside0 (gb215 ≠ gb222) := ⟨h19_⟩
        have NB222_215 : Aside0 (gb222 ≠ gb215) := ⟨h20_⟩
        have NB223_222 : Aside0 (gb223 ≠ gb222) := ⟨h21_⟩
        have NB222_223 : Aside0 (gb222 ≠ gb223) := ⟨h22_⟩
        have GW223 : Aside0 (w.heap.size ≤ gb223) := ⟨h23_⟩
        have GE223 : Aside0 (w.heap.size ≤ gb223) := ⟨h24_⟩
        have NB214_223 : Aside0 (gb214 ≠ gb223) := ⟨h25_⟩
        have NB223_214 : Aside0 (gb223 ≠ gb214) := ⟨h26_⟩
        have NB215_223 : Aside0 (gb215 ≠ gb223) := ⟨h27_⟩
        have NB223_215 : Aside0 (gb223 ≠ gb215) := ⟨h28_⟩
        replace BK214 : Aside0 (w33.heap[gb214]? = some (.cells #[.int .i64 a0_0, .int .i64 a0_1, .int .i64 a0_2, .int .i64 a0_3] 23 (0, 0))) := ⟨h0_⟩
        replace BK215 : Aside0 (w33.heap[gb215]? = some (.cells #[.int .i64 a1_0, .int .i64 a1_1, .int .i64 a1_2, .int .i64 a1_3] 23 (0, 0))) := ⟨h1_⟩
        replace HB : Aside0 (Below w.heap.size w w33) := ⟨h29_⟩
        clear h0_ h1_ h2_ h3_ h4_ h5_ h6_ h7_ h8_ h9_ h10_ h11_ h12_ h13_ h14_ h15_ h16_ h17_ h18_ h19_ h20_ h21_ h22_ h23_ h24_ h25_ h26_ h27_ h28_ h29_
        have hHeld : w33.cell? ⟨gb214, 0, none⟩ = some (.int .i64 a0_0) ∧ w33.cell? ⟨gb214, 1, none⟩ = some (.int .i64 a0_1) ∧ w33.cell? ⟨gb214, 2, none⟩ = some (.int .i64 a0_2) ∧ w33.cell? ⟨gb214, 3, none⟩ = some (.int .i64 a0_3) ∧ w33.cell? ⟨gb215, 0, none⟩ = some (.int .i64 a1_0) ∧ w33.cell? ⟨gb215, 1, none⟩ = some (.int .i64 a1_1) ∧ w33.cell? ⟨gb215, 2, none⟩ = some (.int .i64 a1_2) ∧ w33.cell? ⟨gb215, 3, none⟩ = some (.int .i64 a1_3) := hS_
        refine norm_ (a' := ?_) ?_ ?_
        rotate_left
        ·simp only [putAll, Act.put, List.setIfInBounds_toArray, List.set_cons_zero, List.set_cons_succ]
         rfl
        refine one_ (i := 5) (N := some 8) #[true, true, true, true, true, true, true, true, false, false, false, false] rfl rfl (one_of HT_.out (by kernel_rfl)) (by decide) (fun K hK => ?_)
        refine box_step ?hg (N := 8) ?hd (cs := #[.int .i64 0, .int .i64 0, .int .i64 0, .int .i64 0]) (t := 23) ?hr ?_; (case hd => rfl); (case hg => rfl); (case hr => first | (go_simp; done) | (go_simp; rfl))
        intro gb221 hg w34 hbox hb
        have BK221 := Aside0.mk (hbox)
        have GW221 := sW (w := w) hg (mBs HB.out)
        have GE221 := sW (w := w) hg (mBs HB.out)
        have NB214_221 := sL hg (mBK BK214.out)
        have NB221_214 := sG hg (mBK BK214.out)
        have NB215_221 := sL hg (mBK BK215.out)
        have NB221_215 := sG hg (mBK BK215.out)
        have NB220_221 := sL hg (mBK BK220.out)
        have NB221_220 := sG hg (mBK BK220.out)
        have NB222_221 := sL hg (mBK BK222.out)
        have NB221_222 := sG hg (mBK BK222.out)
        have NB223_221 := sL hg (mBK BK223.out)
        have NB221_223 := sG hg (mBK BK223.out)
        replace BK214 := sB hb (mBK BK214.out)
        replace BK215 := sB hb (mBK BK215.out)
        replace BK220 := sB hb (mBK BK220.out)
        replace BK222 := sB hb (mBK BK222.out)
        replace BK223 := sB hb (mBK BK223.out)
        replace HB := Aside0.mk (below_step (mBs HB.out) hb)
        clear hb hbox hg
        refine hK.out _ _ ⟨bc BK214 0, bc BK214 1, bc BK214 2, bc BK214 3, bc BK215 0, bc BK215 1, bc BK215 2, bc BK215 3⟩ (fun hHeld => ?_)
        clear hK; clear K
        refine norm_ (a' := ?_) ?_ ?_
        rotate_left
        ·show Act.put _ (some 8) _ = _
         simp only [Act.put, List.setIfInBounds_toArray, List.set_cons_zero, List.set_cons_succ, i64_w, i32_w]
         rfl
        exact mN norm_ (hJ4_5_6_7 (gb220, gb221, gb222, gb223) _ ⟨hHeld, (mBK BK214.out), (mBK BK215.out), (mBK BK220.out), (mBK BK221.out), (mBK BK222.out), (mBK BK223.out), GW220.out, GE220.out, NB214_220.out, NB220_214.out, NB215_220.out, NB220_215.out, NB221_220.out, NB220_221.out, NB222_220.out, NB220_222.out, NB223_220.out, NB220_223.out, GW221.out, GE221.out, NB214_221.out, NB221_214.out, NB215_221.out, NB221_215.out, NB222_221.out, NB221_222.out, NB223_221.out, NB221_223.out, GW222.out, GE222.out, NB214_222.out, NB222_214.out, NB215_222.out, NB222_215.out, NB223_222.out, NB222_223.out, GW223.out, GE223.out, NB214_223.out, NB223_214.out, NB215_223.out, NB223_215.out, (mBs HB.out)⟩)
      ·skip
       rintro ⟨gb220, gb221, gb223⟩ w33 ⟨hS_, h0_, h1_, h2_, h3_, h4_, h5_, h6_, h7_, h8_, h9_, h10_, h11_, h12_, h13_, h14_, h15_, h16_, h17_, h18_, h19_, h20_, h21_, h22_, h23_, h24_, h25_, h26_, h27_, h28_, h29_⟩
       have BK220 : Aside0 (w33.heap[gb220]? = some (.cells #[.int .i64 0, .int .i64 0, .int .i64 0, .int .i64 0] 23 (0, 0))) := ⟨h2_⟩
       have BK221 : Aside0 (w33.heap[gb221]? = some (.cells #[.int .i64 0, .int .i64 0, .int .i64 0, .int .i64 0] 23 (0, 0))) := ⟨h3_⟩
       have BK223 : Aside0 (w33.heap[gb223]? = some (.cells #[.int .i64 0, .int .i64 0, .int .i64 0, .int .i64 0] 23 (0, 0))) := ⟨h4_⟩
       have GW220 : Aside0 (w.heap.size ≤ gb220) := ⟨h5_⟩
       have GE220 : Aside0 (w.heap.size ≤ gb220) := ⟨h6_⟩
       have NB214_220 : Aside0 (gb214 ≠ gb220) := ⟨h7_⟩
       have NB220_214 : Aside0 (gb220 ≠ gb214) := ⟨h8_⟩
       have NB215_220 : Aside0 (gb215 ≠ gb220) := ⟨h9_⟩
       have NB220_215 : Aside0 (gb220 ≠ gb215) := ⟨h10_⟩
       have NB221_220 : Aside0 (gb221 ≠ gb220) := ⟨h11_⟩
       have NB220_221 : Aside0 (gb220 ≠ gb221) := ⟨h12_⟩
       have NB223_220 : Aside0 (gb223 ≠ gb220) := ⟨h13_⟩
       have NB220_223 : Aside0 (gb220 ≠ gb223) := ⟨h14_⟩
       have GW221 : Aside0 (w.heap.size ≤ gb221) := ⟨h15_⟩
       have GE221 : Aside0 (w.heap.size ≤ gb221) := ⟨h16_⟩
       have NB214_221 : Aside0 (gb214 ≠ gb221) := ⟨h17_⟩
       have NB221_214 : Aside0 (gb221 ≠ gb214) := ⟨h18_⟩
       have NB215_221 : Aside0 (gb215 ≠ gb221) := ⟨h19_⟩
       have NB221_215 : Aside0 (gb221 ≠ gb215) := ⟨h20_⟩
       have NB223_221 : Aside0 (gb223 ≠ gb221) := ⟨h21_⟩
       have NB221_223 : Aside0 (gb221 ≠ gb223) := ⟨h22_⟩
       have GW223 : Aside0 (w.heap.size ≤ gb223) := ⟨h23_⟩
       have GE223 : Aside0 (w.heap.size ≤ gb223) := ⟨h24_⟩
       have NB214_223 : Aside0 (gb214 ≠ gb223) := ⟨h25_⟩
       have NB223_214 : Aside0 (gb223 ≠ gb214) := ⟨h26_⟩
       have NB215_223 : Aside0 (gb215 ≠ gb223) := ⟨h27_⟩
       have NB223_215 : Aside0 (gb223 ≠ gb215) := ⟨h28_⟩
       replace BK214 : Aside0 (w33.heap[gb214]? = some (.cells #[.int .i64 a0_0, .int .i64 a0_1, .int .i64 a0_2, .int .i64 a0_3] 23 (0, 0))) := ⟨h0_⟩
       replace BK215 : Aside0 (w33.heap[gb215]? = some (.cells #[.int .i64 a1_0, .int .i64 a1_1, .int .i64 a1_2, .int .i64 a1_3] 23 (0, 0))) := ⟨h1_⟩
       replace HB : Aside0 (Below w.heap.size w w33) := ⟨h29_⟩
       clear h0_ h1_ h2_ h3_ h4_ h5_ h6_ h7_ h8_ h9_ h10_ h11_ h12_ h13_ h14_ h15_ h16_ h17_ h18_ h19_ h20_ h21_ h22_ h23_ h24_ h25_ h26_ h27_ h28_ h29_
       have hHeld : w33.cell? ⟨gb214, 0, none⟩ = some (.int .i64 a0_0) ∧ w33.cell? ⟨gb214, 1, none⟩ = some (.int .i64 a0_1) ∧ w33.cell? ⟨gb214, 2, none⟩ = some (.int .i64 a0_2) ∧ w33.cell? ⟨gb214, 3, none⟩ = some (.int .i64 a0_3) ∧ w33.cell? ⟨gb215, 0, none⟩ = some (.int .i64 a1_0) ∧ w33.cell? ⟨gb215, 1, none⟩ = some (.int .i64 a1_1) ∧ w33.cell? ⟨gb215, 2, none⟩ = some (.int .i64 a1_2) ∧ w33.cell? ⟨gb215, 3, none⟩ = some (.int .i64 a1_3) := hS_
       refine norm_ (a' := ?_) ?_ ?_
       rotate_left
       ·simp only [putAll, Act.put, List.setIfInBounds_toArray, List.set_cons_zero, List.set_cons_succ]
        rfl
       refine one_ (i := 6) (N := some 9) #[true, true, true, true, true, true, true, true, false, false, false, false] rfl rfl (one_of HT_.out (by kernel_rfl)) (by decide) (fun K hK => ?_)
       refine box_step ?hg (N := 9) ?hd (cs := #[.int .i64 0, .int .i64 0, .int .i64 0, .int .i64 0]) (t := 23) ?hr ?_; (case hd => rfl); (case hg => rfl); (case hr => first | (go_simp; done) | (go_simp; rfl))
       intro gb222 hg w34 hbox hb
       have BK222 := Aside0.mk (hbox)
       have GW222 := sW (w := w) hg (mBs HB.out)
       have GE222 := sW (w := w) hg (mBs HB.out)
       have NB214_222 := sL hg (mBK BK214.out)
       have NB222_214 := sG hg (mBK BK214.out)
       have NB215_222 := sL hg (mBK BK215.out)
       have NB222_215 := sG hg (mBK BK215.out)
       have NB220_222 := sL hg (mBK BK220.out)
       have NB222_220 := sG hg (mBK BK220.out)
       have NB221_222 := sL hg (mBK BK221.out)
       have NB222_221 := sG hg (mBK BK221.out)
       have NB223_222 := sL hg (mBK BK223.out)
       have NB222_223 := sG hg (mBK BK223.out)
       replace BK214 := sB hb (mBK BK214.out)
       replace BK215 := sB hb (mBK BK215.out)
       replace BK220 := sB hb (mBK BK220.out)
       replace BK221 := sB hb (mBK BK221.out)
       replace BK223 := sB hb (mBK BK223.out)
       replace HB := Aside0.mk (below_step (mBs HB.out) hb)
       clear hb hbox hg
       refine hK.out _ _ ⟨bc BK214 0, bc BK214 1, bc BK214 2, bc BK214 3, bc BK215 0, bc BK215 1, bc BK215 2, bc BK215 3⟩ (fun hHeld => ?_)
       clear hK; clear K
       refine norm_ (a' := ?_) ?_ ?_
       rotate_left
       ·show Act.put _ (some 9) _ = _
        simp only [Act.put, List.setIfInBounds_toArray, List.set_cons_zero, List.set_cons_succ, i64_w, i32_w]
        rfl
       exact mN norm_ (hJ4_5_6_7 (gb220, gb221, gb222, gb223) _ ⟨hHeld, (mBK BK214.out), (mBK BK215.out), (mBK BK220.out), (mBK BK221.out), (mBK BK222.out), (mBK BK223.out), GW220.out, GE220.out, NB214_220.out, NB220_214.out, NB215_220.out, NB220_215.out, NB221_220.out, NB220_221.out, NB222_220.out, NB220_222.out, NB223_220.out, NB220_223.out, GW221.out, GE221.out, NB214_221.out, NB221_214.out, NB215_221.out, NB221_215.out, NB222_221.out, NB221_222.out, NB223_221.out, NB221_223.out, GW222.out, GE222.out, NB214_222.out, NB222_214.out, NB215_222.out, NB222_215.out, NB223_222.out, NB222_223.out, GW223.out, GE223.out, NB214_223.out, NB223_214.out, NB215_223.out, NB223_215.out, (mBs HB.out)⟩)
     ·skip
      rintro ⟨gb220, gb221, gb222⟩ w33 ⟨hS_, h0_, h1_, h2_, h3_, h4_, h5_, h6_, h7_, h8_, h9_, h10_, h11_, h12_, h13_, h14_, h15_, h16_, h17_, h18_, h19_, h20_, h21_, h22_, h23_, h24_, h25_, h26_, h27_, h28_, h29_⟩
      have BK220 : Aside0 (w33.heap[gb220]? = some (.cells #[.int .i64 0, .int .i64 0, .int .i64 0, .int .i64 0] 23 (0, 0))) := ⟨h2_⟩
      have BK221 : Aside0 (w33.heap[gb221]? = some (.cells #[.int .i64 0, .int .i64 0, .int .i64 0, .int .i64 0] 23 (0, 0))) := ⟨h3_⟩
      have BK222 : Aside0 (w33.heap[gb222]? = some (.cells #[.int .i64 0, .int .i64 0, .int .i64 0, .int .i64 0] 23 (0, 0))) := ⟨h4_⟩
      have GW220 : Aside0 (w.heap.size ≤ gb220) := ⟨h5_⟩
      have GE220 : Aside0 (w.heap.size ≤ gb220) := ⟨h6_⟩
      have NB214_220 : Aside0 (gb214 ≠ gb220) := ⟨h7_⟩
      have NB220_214 : Aside0 (gb220 ≠ gb214) := ⟨h8_⟩
      have NB215_220 : Aside0 (gb215 ≠ gb220) := ⟨h9_⟩
      have NB220_215 : Aside0 (gb220 ≠ gb215) := ⟨h10_⟩
      have NB221_220 : Aside0 (gb221 ≠ gb220) := ⟨h11_⟩
      have NB220_221 : Aside0 (gb220 ≠ gb221) := ⟨h12_⟩
      have NB222_220 : Aside0 (gb222 ≠ gb220) := ⟨h13_⟩
      have NB220_222 : Aside0 (gb220 ≠ gb222) := ⟨h14_⟩
      have GW221 : Aside0 (w.heap.size ≤ gb221) := ⟨h15_⟩
      have GE221 : Aside0 (w.heap.size ≤ gb221) := ⟨h16_⟩
      have NB214_221 : Aside0 (gb214 ≠ gb221) := ⟨h17_⟩
      have NB221_214 : Aside0 (gb221 ≠ gb214) := ⟨h18_⟩
      have NB215_221 : Aside0 (gb215 ≠ gb221) := ⟨h19_⟩
      have NB221_215 : Aside0 (gb221 ≠ gb215) := ⟨h20_⟩
      have NB222_221 : Aside0 (gb222 ≠ gb221) := ⟨h21_⟩
      have NB221_222 : Aside0 (gb221 ≠ gb222) := ⟨h22_⟩
      have GW222 : Aside0 (w.heap.size ≤ gb222) := ⟨h23_⟩
      have GE222 : Aside0 (w.heap.size ≤ gb222) := ⟨h24_⟩
      have NB214_222 : Aside0 (gb214 ≠ gb222) := ⟨h25_⟩
      have NB222_214 : Aside0 (gb222 ≠ gb214) := ⟨h26_⟩
      have NB215_222 : Aside0 (gb215 ≠ gb222) := ⟨h27_⟩
      have NB222_215 : Aside0 (gb222 ≠ gb215) := ⟨h28_⟩
      replace BK214 : Aside0 (w33.heap[gb214]? = some (.cells #[.int .i64 a0_0, .int .i64 a0_1, .int .i64 a0_2, .int .i64 a0_3] 23 (0, 0))) := ⟨h0_⟩
      replace BK215 : Aside0 (w33.heap[gb215]? = some (.cells #[.int .i64 a1_0, .int .i64 a1_1, .int .i64 a1_2, .int .i64 a1_3] 23 (0, 0))) := ⟨h1_⟩
      replace HB : Aside0 (Below w.heap.size w w33) := ⟨h29_⟩
      clear h0_ h1_ h2_ h3_ h4_ h5_ h6_ h7_ h8_ h9_ h10_ h11_ h12_ h13_ h14_ h15_ h16_ h17_ h18_ h19_ h20_ h21_ h22_ h23_ h24_ h25_ h26_ h27_ h28_ h29_
      have hHeld : w33.cell? ⟨gb214, 0, none⟩ = some (.int .i64 a0_0) ∧ w33.cell? ⟨gb214, 1, none⟩ = some (.int .i64 a0_1) ∧ w33.cell? ⟨gb214, 2, none⟩ = some (.int .i64 a0_2) ∧ w33.cell? ⟨gb214, 3, none⟩ = some (.int .i64 a0_3) ∧ w33.cell? ⟨gb215, 0, none⟩ = some (.int .i64 a1_0) ∧ w33.cell? ⟨gb215, 1, none⟩ = some (.int .i64 a1_1) ∧ w33.cell? ⟨gb215, 2, none⟩ = some (.int .i64 a1_2) ∧ w33.cell? ⟨gb215, 3, none⟩ = some (.int .i64 a1_3) := hS_
      refine norm_ (a' := ?_) ?_ ?_
      rotate_left
      ·simp only [putAll, Act.put, List.setIfInBounds_toArray, List.set_cons_zero, List.set_cons_succ]
       rfl
      refine one_ (i := 7) (N := some 10) #[true, true, true, true, true, true, true, true, false, false, false, false] rfl rfl (one_of HT_.out (by kernel_rfl)) (by decide) (fun K hK => ?_)
      refine box_step ?hg (N := 10) ?hd (cs := #[.int .i64 0, .int .i64 0, .int .i64 0, .int .i64 0]) (t := 23) ?hr ?_; (case hd => rfl); (case hg => rfl); (case hr => first | (go_simp; done) | (go_simp; rfl))
      intro gb223 hg w34 hbox hb
      have BK223 := Aside0.mk (hbox)
      have GW223 := sW (w := w) hg (mBs HB.out)
      have GE223 := sW (w := w) hg (mBs HB.out)
      have NB214_223 := sL hg (mBK BK214.out)
      have NB223_214 := sG hg (mBK BK214.out)
      have NB215_223 := sL hg (mBK BK215.out)
      have NB223_215 := sG hg (mBK BK215.out)
      have NB220_223 := sL hg (mBK BK220.out)
      have NB223_220 := sG hg (mBK BK220.out)
      have NB221_223 := sL hg (mBK BK221.out)
      have NB223_221 := sG hg (mBK BK221.out)
      have NB222_223 := sL hg (mBK BK222.out)
      have NB223_222 := sG hg (mBK BK222.out)
      replace BK214 := sB hb (mBK BK214.out)
      replace BK215 := sB hb (mBK BK215.out)
      replace BK220 := sB hb (mBK BK220.out)
      replace BK221 := sB hb (mBK BK221.out)
      replace BK222 := sB hb (mBK BK222.out)
      replace HB := Aside0.mk (below_step (mBs HB.out) hb)
      clear hb hbox hg
      refine hK.out _ _ ⟨bc BK214 0, bc BK214 1, bc BK214 2, bc BK214 3, bc BK215 0, bc BK215 1, bc BK215 2, bc BK215 3⟩ (fun hHeld => ?_)
      clear hK; clear K
      refine norm_ (a' := ?_) ?_ ?_
      rotate_left
      ·show Act.put _ (some 10) _ = _
       simp only [Act.put, List.setIfInBounds_toArray, List.set_cons_zero, List.set_cons_succ, i64_w, i32_w]
       rfl
      exact mN norm_ (hJ4_5_6_7 (gb220, gb221, gb222, gb223) _ ⟨hHeld, (mBK BK214.out), (mBK BK215.out), (mBK BK220.out), (mBK BK221.out), (mBK BK222.out), (mBK BK223.out), GW220.out, GE220.out, NB214_220.out, NB220_214.out, NB215_220.out, NB220_215.out, NB221_220.out, NB220_221.out, NB222_220.out, NB220_222.out, NB223_220.out, NB220_223.out, GW221.out, GE221.out, NB214_221.out, NB221_214.out, NB215_221.out, NB221_215.out, NB222_221.out, NB221_222.out, NB223_221.out, NB221_223.out, GW222.out, GE222.out, NB214_222.out, NB222_214.out, NB215_222.out, NB222_215.out, NB223_222.out, NB222_223.out, GW223.out, GE223.out, NB214_223.out, NB223_214.out, NB215_223.out, NB223_215.out, (mBs HB.out)⟩)
    rintro ⟨gb220, gb221, gb222, gb223⟩ w34 ⟨hS_, h0_, h1_, h2_, h3_, h4_, h5_, h6_, h7_, h8_, h9_, h10_, h11_, h12_, h13_, h14_, h15_, h16_, h17_, h18_, h19_, h20_, h21_, h22_, h23_, h24_, h25_, h26_, h27_, h28_, h29_, h30_, h31_, h32_, h33_, h34_, h35_, h36_, h37_, h38_, h39_, h40_, h41_, h42_⟩
    have BK220 : Aside0 (w34.heap[gb220]? = some (.cells #[.int .i64 0, .int .i64 0, .int .i64 0, .int .i64 0] 23 (0, 0))) := ⟨h2_⟩
    have BK221 : Aside0 (w34.heap[gb221]? = some (.cells #[.int .i64 0, .int .i64 0, .int .i64 0, .int .i64 0] 23 (0, 0))) := ⟨h3_⟩
    have BK222 : Aside0 (w34.heap[gb222]? = some (.cells #[.int .i64 0, .int .i64 0, .int .i64 0, .int .i64 0] 23 (0, 0))) := ⟨h4_⟩
    have BK223 : Aside0 (w34.heap[gb223]? = some (.cells #[.int .i64 0, .int .i64 0, .int .i64 0, .int .i64 0] 23 (0, 0))) := ⟨h5_⟩
    have GW220 : Aside0 (w.heap.size ≤ gb220) := ⟨h6_⟩
    have GE220 : Aside0 (w.heap.size ≤ gb220) := ⟨h7_⟩
    have NB214_220 : Aside0 (gb214 ≠ gb220) := ⟨h8_⟩
    have NB220_214 : Aside0 (gb220 ≠ gb214) := ⟨h9_⟩
    have NB215_220 : Aside0 (gb215 ≠ gb220) := ⟨h10_⟩
    have NB220_215 : Aside0 (gb220 ≠ gb215) := ⟨h11_⟩
    have NB221_220 : Aside0 (gb221 ≠ gb220) := ⟨h12_⟩
    have NB220_221 : Aside0 (gb220 ≠ gb221) := ⟨h13_⟩
    have NB222_220 : Aside0 (gb222 ≠ gb220) := ⟨h14_⟩
    have NB220_222 : Aside0 (gb220 ≠ gb222) := ⟨h15_⟩
    have NB223_220 : Aside0 (gb223 ≠ gb220) := ⟨h16_⟩
    have NB220_223 : Aside0 (gb220 ≠ gb223) := ⟨h17_⟩
    have GW221 : Aside0 (w.heap.size ≤ gb221) := ⟨h18_⟩
    have GE221 : Aside0 (w.heap.size ≤ gb221) := ⟨h19_⟩
    have NB214_221 : Aside0 (gb214 ≠ gb221) := ⟨h20_⟩
    have NB221_214 : Aside0 (gb221 ≠ gb214) := ⟨h21_⟩
    have NB215_221 : Aside0 (gb215 ≠ gb221) := ⟨h22_⟩
    have NB221_215 : Aside0 (gb221 ≠ gb215) := ⟨h23_⟩
    have NB222_221 : Aside0 (gb222 ≠ gb221) := ⟨h24_⟩
    have NB221_222 : Aside0 (gb221 ≠ gb222) := ⟨h25_⟩
    have NB223_221 : Aside0 (gb223 ≠ gb221) := ⟨h26_⟩
    have NB221_223 : Aside0 (gb221 ≠ gb223) := ⟨h27_⟩
    have GW222 : Aside0 (w.heap.size ≤ gb222) := ⟨h28_⟩
    have GE222 : Aside0 (w.heap.size ≤ gb222) := ⟨h29_⟩
    have NB214_222 : Aside0 (gb214 ≠ gb222) := ⟨h30_⟩
    have NB222_214 : Aside0 (gb222 ≠ gb214) := ⟨h31_⟩
    have NB215_222 : Aside0 (gb215 ≠ gb222) := ⟨h32_⟩
    have NB222_215 : Aside0 (gb222 ≠ gb215) := ⟨h33_⟩
    have NB223_222 : Aside0 (gb223 ≠ gb222) := ⟨h34_⟩
    have NB222_223 : Aside0 (gb222 ≠ gb223) := ⟨h35_⟩
    have GW223 : Aside0 (w.heap.size ≤ gb223) := ⟨h36_⟩
    have GE223 : Aside0 (w.heap.size ≤ gb223) := ⟨h37_⟩
    have NB214_223 : Aside0 (gb214 ≠ gb223) := ⟨h38_⟩
    have NB223_214 : Aside0 (gb223 ≠ gb214) := ⟨h39_⟩
    have NB215_223 : Aside0 (gb215 ≠ gb223) := ⟨h40_⟩
    have NB223_215 : Aside0 (gb223 ≠ gb215) := ⟨h41_⟩
    replace BK214 : Aside0 (w34.heap[gb214]? = some (.cells #[.int .i64 a0_0, .int .i64 a0_1, .int .i64 a0_2, .int .i64 a0_3] 23 (0, 0))) := ⟨h0_⟩
    replace BK215 : Aside0 (w34.heap[gb215]? = some (.cells #[.int .i64 a1_0, .int .i64 a1_1, .int .i64 a1_2, .int .i64 a1_3] 23 (0, 0))) := ⟨h1_⟩
    replace HB : Aside0 (Below w.heap.size w w34) := ⟨h42_⟩
    clear h0_ h1_ h2_ h3_ h4_ h5_ h6_ h7_ h8_ h9_ h10_ h11_ h12_ h13_ h14_ h15_ h16_ h17_ h18_ h19_ h20_ h21_ h22_ h23_ h24_ h25_ h26_ h27_ h28_ h29_ h30_ h31_ h32_ h33_ h34_ h35_ h36_ h37_ h38_ h39_ h40_ h41_ h42_
    have hHeld : w34.cell? ⟨gb214, 0, none⟩ = some (.int .i64 a0_0) ∧ w34.cell? ⟨gb214, 1, none⟩ = some (.int .i64 a0_1) ∧ w34.cell? ⟨gb214, 2, none⟩ = some (.int .i64 a0_2) ∧ w34.cell? ⟨gb214, 3, none⟩ = some (.int .i64 a0_3) ∧ w34.cell? ⟨gb215, 0, none⟩ = some (.int .i64 a1_0) ∧ w34.cell? ⟨gb215, 1, none⟩ = some (.int .i64 a1_1) ∧ w34.cell? ⟨gb215, 2, none⟩ = some (.int .i64 a1_2) ∧ w34.cell? ⟨gb215, 3, none⟩ = some (.int .i64 a1_3) := hS_
    refine norm_ (a' := ?_) ?_ ?_
    rotate_left
    ·simp only [putAll, Act.put, List.setIfInBounds_toArray, List.set_cons_zero, List.set_cons_succ]
     rfl
    refine one_ (i := 8) (N := none) #[true, true, true, true, true, true, true, true, true, false, false, false] rfl rfl (one_of HT_.out (by kernel_rfl)) (by decide) (fun K hK => ?_)
    have hs_0 : w34.cell? ⟨gb220, 0, none⟩ = some (.int .i64 0) := bc BK220 0
    have hf_0 := blk_frozen BK220.out 0
    have hs_1 : w34.cell? ⟨gb220, 1, none⟩ = some (.int .i64 0) := bc BK220 1
    have hf_1 := blk_frozen BK220.out 1
    have hs_2 : w34.cell? ⟨gb220, 2, none⟩ = some (.int .i64 0) := bc BK220 2
    have hf_2 := blk_frozen BK220.out 2
    have hs_3 : w34.cell? ⟨gb220, 3, none⟩ = some (.int .i64 0) := bc BK220 3
    have hf_3 := blk_frozen BK220.out 3
    refine skip_ (w1 := ?_) (by rfl) rfl ?_ ?_
    rotate_left
    ·go_simp
     rfl
    clear hs_0 hs_1 hs_2 hs_3 hf_0 hf_1 hf_2 hf_3
    have n214_ : Aside0 (((((w34.setCell ⟨gb220, 0, none⟩ (.int .i64 a0_0)).setCell ⟨gb220, 1, none⟩ (.int .i64 a0_1)).setCell ⟨gb220, 2, none⟩ (.int .i64 a0_2)).setCell ⟨gb220, 3, none⟩ (.int .i64 a0_3)).heap[gb214]? = some (.cells #[.int .i64 a0_0, .int .i64 a0_1, .int .i64 a0_2, .int .i64 a0_3] 23 (0, 0))) := ⟨(blk_far (blk_far (blk_far (blk_far BK214.out NB214_220.out _) NB214_220.out _) NB214_220.out _) NB214_220.out _)⟩
    have n215_ : Aside0 (((((w34.setCell ⟨gb220, 0, none⟩ (.int .i64 a0_0)).setCell ⟨gb220, 1, none⟩ (.int .i64 a0_1)).setCell ⟨gb220, 2, none⟩ (.int .i64 a0_2)).setCell ⟨gb220, 3, none⟩ (.int .i64 a0_3)).heap[gb215]? = some (.cells #[.int .i64 a1_0, .int .i64 a1_1, .int .i64 a1_2, .int .i64 a1_3] 23 (0, 0))) := ⟨(blk_far (blk_far (blk_far (blk_far BK215.out NB215_220.out _) NB215_220.out _) NB215_220.out _) NB215_220.out _)⟩
    have n220_ : Aside0 (((((w34.setCell ⟨gb220, 0, none⟩ (.int .i64 a0_0)).setCell ⟨gb220, 1, none⟩ (.int .i64 a0_1)).setCell ⟨gb220, 2, none⟩ (.int .i64 a0_2)).setCell ⟨gb220, 3, none⟩ (.int .i64 a0_3)).heap[gb220]? = some (.cells #[.int .i64 a0_0, .int .i64 a0_1, .int .i64 a0_2, .int .i64 a0_3] 23 (0, 0))) := ⟨(blk_put (cs := #[.int .i64 a0_0, .int .i64 a0_1, .int .i64 a0_2, .int .i64 0]) (blk_put (cs := #[.int .i64 a0_0, .int .i64 a0_1, .int .i64 0, .int .i64 0]) (blk_put (cs := #[.int .i64 a0_0, .int .i64 0, .int .i64 0, .int .i64 0]) (blk_put (cs := #[.int .i64 0, .int .i64 0, .int .i64 0, .int .i64 0]) BK220.out 0 _ rfl) 1 _ rfl) 2 _ rfl) 3 _ rfl)⟩
    have n221_ : Aside0 (((((w34.setCell ⟨gb220, 0, none⟩ (.int .i64 a0_0)).setCell ⟨gb220, 1, none⟩ (.int .i64 a0_1)).setCell ⟨gb220, 2, none⟩ (.int .i64 a0_2)).setCell ⟨gb220, 3, none⟩ (.int .i64 a0_3)).heap[gb221]? = some (.cells #[.int .i64 0, .int .i64 0, .int .i64 0, .int .i64 0] 23 (0, 0))) := ⟨(blk_far (blk_far (blk_far (blk_far BK221.out NB221_220.out _) NB221_220.out _) NB221_220.out _) NB221_220.out _)⟩
    have n222_ : Aside0 (((((w34.setCell ⟨gb220, 0, none⟩ (.int .i64 a0_0)).setCell ⟨gb220, 1, none⟩ (.int .i64 a0_1)).setCell ⟨gb220, 2, none⟩ (.int .i64 a0_2)).setCell ⟨gb220, 3, none⟩ (.int .i64 a0_3)).heap[gb222]? = some (.cells #[.int .i64 0, .int .i64 0, .int .i64 0, .int .i64 0] 23 (0, 0))) := ⟨(blk_far (blk_far (blk_far (blk_far BK222.out NB222_220.out _) NB222_220.out _) NB222_220.out _) NB222_220.out _)⟩
    have n223_ : Aside0 (((((w34.setCell ⟨gb220, 0, none⟩ (.int .i64 a0_0)).setCell ⟨gb220, 1, none⟩ (.int .i64 a0_1)).setCell ⟨gb220, 2, none⟩ (.int .i64 a0_2)).setCell ⟨gb220, 3, none⟩ (.int .i64 a0_3)).heap[gb223]? = some (.cells #[.int .i64 0, .int .i64 0, .int .i64 0, .int .i64 0] 23 (0, 0))) := ⟨(blk_far (blk_far (blk_far (blk_far BK223.out NB223_220.out _) NB223_220.out _) NB223_220.out _) NB223_220.out _)⟩
    have nB_ : Aside0 (Below w.heap.size w ((((w34.setCell ⟨gb220, 0, none⟩ (.int .i64 a0_0)).setCell ⟨gb220, 1, none⟩ (.int .i64 a0_1)).setCell ⟨gb220, 2, none⟩ (.int .i64 a0_2)).setCell ⟨gb220, 3, none⟩ (.int .i64 a0_3))) := ⟨(below_set (below_set (below_set (below_set HB.out GE220.out) GE220.out) GE220.out) GE220.out)⟩
    clear BK214 BK215 BK220 BK221 BK222 BK223 HB
    generalize ((((w34.setCell ⟨gb220, 0, none⟩ (.int .i64 a0_0)).setCell ⟨gb220, 1, none⟩ (.int .i64 a0_1)).setCell ⟨gb220, 2, none⟩ (.int .i64 a0_2)).setCell ⟨gb220, 3, none⟩ (.int .i64 a0_3)) = wa0 at n214_ n215_ n220_ n221_ n222_ n223_ nB_ ⊢
    have BK214 := n214_
    have BK215 := n215_
    have BK220 := n220_
    have BK221 := n221_
    have BK222 := n222_
    have BK223 := n223_
    have HB := nB_
    clear n214_ n215_ n220_ n221_ n222_ n223_ nB_
    refine hK.out _ _ ⟨bc BK214 0, bc BK214 1, bc BK214 2, bc BK214 3, bc BK215 0, bc BK215 1, bc BK215 2, bc BK215 3⟩ (fun hHeld => ?_)
    clear hK; clear K
    refine one_ (i := 9) (N := none) #[true, true, true, true, true, true, true, true, true, true, false, false] rfl rfl (one_of HT_.out (by kernel_rfl)) (by decide) (fun K hK => ?_)
    have hs_0 : wa0.cell? ⟨gb221, 0, none⟩ = some (.int .i64 0) := bc BK221 0
    have hf_0 := blk_frozen BK221.out 0
    have hs_1 : wa0.cell? ⟨gb221, 1, none⟩ = some (.int .i64 0) := bc BK221 1
    have hf_1 := blk_frozen BK221.out 1
    have hs_2 : wa0.cell? ⟨gb221, 2, none⟩ = some (.int .i64 0) := bc BK221 2
    have hf_2 := blk_frozen BK221.out 2
    have hs_3 : wa0.cell? ⟨gb221, 3, none⟩ = some (.int .i64 0) := bc BK221 3
    have hf_3 := blk_frozen BK221.out 3
    refine skip_ (w1 := ?_) (by rfl) rfl ?_ ?_
    rotate_left
    ·go_simp
     rfl
    clear hs_0 hs_1 hs_2 hs_3 hf_0 hf_1 hf_2 hf_3
    have n214_ : Aside0 (((((wa0.setCell ⟨gb221, 0, none⟩ (.int .i64 a1_0)).setCell ⟨gb221, 1, none⟩ (.int .i64 a1_1)).setCell ⟨gb221, 2, none⟩ (.int .i64 a1_2)).setCell ⟨gb221, 3, none⟩ (.int .i64 a1_3)).heap[gb214]? = some (.cells #[.int .i64 a0_0, .int .i64 a0_1, .int .i64 a0_2, .int .i64 a0_3] 23 (0, 0))) := ⟨(blk_far (blk_far (blk_far (blk_far BK214.out NB214_221.out _) NB214_221.out _) NB214_221.out _) NB214_221.out _)⟩
    have n215_ : Aside0 (((((wa0.setCell ⟨gb221, 0, none⟩ (.int .i64 a1_0)).setCell ⟨gb221, 1, none⟩ (.int .i64 a1_1)).setCell ⟨gb221, 2, none⟩ (.int .i64 a1_2)).setCell ⟨gb221, 3, none⟩ (.int .i64 a1_3)).heap[gb215]? = some (.cells #[.int .i64 a1_0, .int .i64 a1_1, .int .i64 a1_2, .int .i64 a1_3] 23 (0, 0))) := ⟨(blk_far (blk_far (blk_far (blk_far BK215.out NB215_221.out _) NB215_221.out _) NB215_221.out _) NB215_221.out _)⟩
    have n220_ : Aside0 (((((wa0.setCell ⟨gb221, 0, none⟩ (.int .i64 a1_0)).setCell ⟨gb221, 1, none⟩ (.int .i64 a1_1)).setCell ⟨gb221, 2, none⟩ (.int .i64 a1_2)).setCell ⟨gb221, 3, none⟩ (.int .i64 a1_3)).heap[gb220]? = some (.cells #[.int .i64 a0_0, .int .i64 a0_1, .int .i64 a0_2, .int .i64 a0_3] 23 (0, 0))) := ⟨(blk_far (blk_far (blk_far (blk_far BK220.out NB220_221.out _) NB220_221.out _) NB220_221.out _) NB220_221.out _)⟩
    have n221_ : Aside0 (((((wa0.setCell ⟨gb221, 0, none⟩ (.int .i64 a1_0)).setCell ⟨gb221, 1, none⟩ (.int .i64 a1_1)).setCell ⟨gb221, 2, none⟩ (.int .i64 a1_2)).setCell ⟨gb221, 3, none⟩ (.int .i64 a1_3)).heap[gb221]? = some (.cells #[.int .i64 a1_0, .int .i64 a1_1, .int .i64 a1_2, .int .i64 a1_3] 23 (0, 0))) := ⟨(blk_put (cs := #[.int .i64 a1_0, .int .i64 a1_1, .int .i64 a1_2, .int .i64 0]) (blk_put (cs := #[.int .i64 a1_0, .int .i64 a1_1, .int .i64 0, .int .i64 0]) (blk_put (cs := #[.int .i64 a1_0, .int .i64 0, .int .i64 0, .int .i64 0]) (blk_put (cs := #[.int .i64 0, .int .i64 0, .int .i64 0, .int .i64 0]) BK221.out 0 _ rfl) 1 _ rfl) 2 _ rfl) 3 _ rfl)⟩
    have n222_ : Aside0 (((((wa0.setCell ⟨gb221, 0, none⟩ (.int .i64 a1_0)).setCell ⟨gb221, 1, none⟩ (.int .i64 a1_1)).setCell ⟨gb221, 2, none⟩ (.int .i64 a1_2)).setCell ⟨gb221, 3, none⟩ (.int .i64 a1_3)).heap[gb222]? = some (.cells #[.int .i64 0, .int .i64 0, .int .i64 0, .int .i64 0] 23 (0, 0))) := ⟨(blk_far (blk_far (blk_far (blk_far BK222.out NB222_221.out _) NB222_221.out _) NB222_221.out _) NB222_221.out _)⟩
    have n223_ : Aside0 (((((wa0.setCell ⟨gb221, 0, none⟩ (.int .i64 a1_0)).setCell ⟨gb221, 1, none⟩ (.int .i64 a1_1)).setCell ⟨gb221, 2, none⟩ (.int .i64 a1_2)).setCell ⟨gb221, 3, none⟩ (.int .i64 a1_3)).heap[gb223]? = some (.cells #[.int .i64 0, .int .i64 0, .int .i64 0, .int .i64 0] 23 (0, 0))) := ⟨(blk_far (blk_far (blk_far (blk_far BK223.out NB223_221.out _) NB223_221.out _) NB223_221.out _) NB223_221.out _)⟩
    have nB_ : Aside0 (Below w.heap.size w ((((wa0.setCell ⟨gb221, 0, none⟩ (.int .i64 a1_0)).setCell ⟨gb221, 1, none⟩ (.int .i64 a1_1)).setCell ⟨gb221, 2, none⟩ (.int .i64 a1_2)).setCell ⟨gb221, 3, none⟩ (.int .i64 a1_3))) := ⟨(below_set (below_set (below_set (below_set HB.out GE221.out) GE221.out) GE221.out) GE221.out)⟩
    clear BK214 BK215 BK220 BK221 BK222 BK223 HB
    generalize ((((wa0.setCell ⟨gb221, 0, none⟩ (.int .i64 a1_0)).setCell ⟨gb221, 1, none⟩ (.int .i64 a1_1)).setCell ⟨gb221, 2, none⟩ (.int .i64 a1_2)).setCell ⟨gb221, 3, none⟩ (.int .i64 a1_3)) = wa1 at n214_ n215_ n220_ n221_ n222_ n223_ nB_ ⊢
    have BK214 := n214_
    have BK215 := n215_
    have BK220 := n220_
    have BK221 := n221_
    have BK222 := n222_
    have BK223 := n223_
    have HB := nB_
    clear n214_ n215_ n220_ n221_ n222_ n223_ nB_
    refine hK.out _ _ ⟨bc BK214 0, bc BK214 1, bc BK214 2, bc BK214 3, bc BK215 0, bc BK215 1, bc BK215 2, bc BK215 3⟩ (fun hHeld => ?_)
    clear hK; clear K
    refine one_ (i := 10) (N := none) #[true, true, true, true, true, true, true, true, true, true, true, false] rfl rfl (one_of HT_.out (by kernel_rfl)) (by decide) (fun K hK => ?_)
    have hs_0 : wa1.cell? ⟨gb222, 0, none⟩ = some (.int .i64 0) := bc BK222 0
    have hf_0 := blk_frozen BK222.out 0
    have hs_1 : wa1.cell? ⟨gb222, 1, none⟩ = some (.int .i64 0) := bc BK222 1
    have hf_1 := blk_frozen BK222.out 1
    have hs_2 : wa1.cell? ⟨gb222, 2, none⟩ = some (.int .i64 0) := bc BK222 2
    have hf_2 := blk_frozen BK222.out 2
    have hs_3 : wa1.cell? ⟨gb222, 3, none⟩ = some (.int .i64 0) := bc BK222 3
    have hf_3 := blk_frozen BK222.out 3
    refine skip_ (w1 := ?_) (by rfl) rfl ?_ ?_
    rotate_left
    ·go_simp
     rfl
    clear hs_0 hs_1 hs_2 hs_3 hf_0 hf_1 hf_2 hf_3
    have n214_ : Aside0 (((((wa1.setCell ⟨gb222, 0, none⟩ (.int .i64 a0_0)).setCell ⟨gb222, 1, none⟩ (.int .i64 a0_1)).setCell ⟨gb222, 2, none⟩ (.int .i64 a0_2)).setCell ⟨gb222, 3, none⟩ (.int .i64 a0_3)).heap[gb214]? = some (.cells #[.int .i64 a0_0, .int .i64 a0_1, .int .i64 a0_2, .int .i64 a0_3] 23 (0, 0))) := ⟨(blk_far (blk_far (blk_far (blk_far BK214.out NB214_222.out _) NB214_222.out _) NB214_222.out _) NB214_222.out _)⟩
    have n215_ : Aside0 (((((wa1.setCell ⟨gb222, 0, none⟩ (.int .i64 a0_0)).setCell ⟨gb222, 1, none⟩ (.int .i64 a0_1)).setCell ⟨gb222, 2, none⟩ (.int .i64 a0_2)).setCell ⟨gb222, 3, none⟩ (.int .i64 a0_3)).heap[gb215]? = some (.cells #[.int .i64 a1_0, .int .i64 a1_1, .int .i64 a1_2, .int .i64 a1_3] 23 (0, 0))) := ⟨(blk_far (blk_far (blk_far (blk_far BK215.out NB215_222.out _) NB215_222.out _) NB215_222.out _) NB215_222.out _)⟩
    have n220_ : Aside0 (((((wa1.setCell ⟨gb222, 0, none⟩ (.int .i64 a0_0)).setCell ⟨gb222, 1, none⟩ (.int .i64 a0_1)).setCell ⟨gb222, 2, none⟩ (.int .i64 a0_2)).setCell ⟨gb222, 3, none⟩ (.int .i64 a0_3)).heap[gb220]? = some (.cells #[.int .i64 a0_0, .int .i64 a0_1, .int .i64 a0_2, .int .i64 a0_3] 23 (0, 0))) := ⟨(blk_far (blk_far (blk_far (blk_far BK220.out NB220_222.out _) NB220_222.out _) NB220_222.out _) NB220_222.out _)⟩
    have n221_ : Aside0 (((((wa1.setCell ⟨gb222, 0, none⟩ (.int .i64 a0_0)).setCell ⟨gb222, 1, none⟩ (.int .i64 a0_1)).setCell ⟨gb222, 2, none⟩ (.int .i64 a0_2)).setCell ⟨gb222, 3, none⟩ (.int .i64 a0_3)).heap[gb221]? = some (.cells #[.int .i64 a1_0, .int .i64 a1_1, .int .i64 a1_2, .int .i64 a1_3] 23 (0, 0))) := ⟨(blk_far (blk_far (blk_far (blk_far BK221.out NB221_222.out _) NB221_222.out _) NB221_222.out _) NB221_222.out _)⟩
    have n222_ : Aside0 (((((wa1.setCell ⟨gb222, 0, none⟩ (.int .i64 a0_0)).setCell ⟨gb222, 1, none⟩ (.int .i64 a0_1)).setCell ⟨gb222, 2, none⟩ (.int .i64 a0_2)).setCell ⟨gb222, 3, none⟩ (.int .i64 a0_3)).heap[gb222]? = some (.cells #[.int .i64 a0_0, .int .i64 a0_1, .int .i64 a0_2, .int .i64 a0_3] 23 (0, 0))) := ⟨(blk_put (cs := #[.int .i64 a0_0, .int .i64 a0_1, .int .i64 a0_2, .int .i64 0]) (blk_put (cs := #[.int .i64 a0_0, .int .i64 a0_1, .int .i64 0, .int .i64 0]) (blk_put (cs := #[.int .i64 a0_0, .int .i64 0, .int .i64 0, .int .i64 0]) (blk_put (cs := #[.int .i64 0, .int .i64 0, .int .i64 0, .int .i64 0]) BK222.out 0 _ rfl) 1 _ rfl) 2 _ rfl) 3 _ rfl)⟩
    have n223_ : Aside0 (((((wa1.setCell ⟨gb222, 0, none⟩ (.int .i64 a0_0)).setCell ⟨gb222, 1, none⟩ (.int .i64 a0_1)).setCell ⟨gb222, 2, none⟩ (.int .i64 a0_2)).setCell ⟨gb222, 3, none⟩ (.int .i64 a0_3)).heap[gb223]? = some (.cells #[.int .i64 0, .int .i64 0, .int .i64 0, .int .i64 0] 23 (0, 0))) := ⟨(blk_far (blk_far (blk_far (blk_far BK223.out NB223_222.out _) NB223_222.out _) NB223_222.out _) NB223_222.out _)⟩
    have nB_ : Aside0 (Below w.heap.size w ((((wa1.setCell ⟨gb222, 0, none⟩ (.int .i64 a0_0)).setCell ⟨gb222, 1, none⟩ (.int .i64 a0_1)).setCell ⟨gb222, 2, none⟩ (.int .i64 a0_2)).setCell ⟨gb222, 3, none⟩ (.int .i64 a0_3))) := ⟨(below_set (below_set (below_set (below_set HB.out GE222.out) GE222.out) GE222.out) GE222.out)⟩
    clear BK214 BK215 BK220 BK221 BK222 BK223 HB
    generalize ((((wa1.setCell ⟨gb222, 0, none⟩ (.int .i64 a0_0)).setCell ⟨gb222, 1, none⟩ (.int .i64 a0_1)).setCell ⟨gb222, 2, none⟩ (.int .i64 a0_2)).setCell ⟨gb222, 3, none⟩ (.int .i64 a0_3)) = wa2 at n214_ n215_ n220_ n221_ n222_ n223_ nB_ ⊢
    have BK214 := n214_
    have BK215 := n215_
    have BK220 := n220_
    have BK221 := n221_
    have BK222 := n222_
    have BK223 := n223_
    have HB := nB_
    clear n214_ n215_ n220_ n221_ n222_ n223_ nB_
    refine hK.out _ _ ⟨bc BK214 0, bc BK214 1, bc BK214 2, bc BK214 3, bc BK215 0, bc BK215 1, bc BK215 2, bc BK215 3⟩ (fun hHeld => ?_)
    clear hK; clear K
    refine one_ (i := 11) (N := none) #[true, true, true, true, true, true, true, true, true, true, true, true] rfl rfl (one_of HT_.out (by kernel_rfl)) (by decide) (fun K hK => ?_)
    have hs_0 : wa2.cell? ⟨gb223, 0, none⟩ = some (.int .i64 0) := bc BK223 0
    have hf_0 := blk_frozen BK223.out 0
    have hs_1 : wa2.cell? ⟨gb223, 1, none⟩ = some (.int .i64 0) := bc BK223 1
    have hf_1 := blk_frozen BK223.out 1
    have hs_2 : wa2.cell? ⟨gb223, 2, none⟩ = some (.int .i64 0) := bc BK223 2
    have hf_2 := blk_frozen BK223.out 2
    have hs_3 : wa2.cell? ⟨gb223, 3, none⟩ = some (.int .i64 0) := bc BK223 3
    have hf_3 := blk_frozen BK223.out 3
    refine skip_ (w1 := ?_) (by rfl) rfl ?_ ?_
    rotate_left
    ·go_simp
     rfl
    clear hs_0 hs_1 hs_2 hs_3 hf_0 hf_1 hf_2 hf_3
    have n214_ : Aside0 (((((wa2.setCell ⟨gb223, 0, none⟩ (.int .i64 a0_0)).setCell ⟨gb223, 1, none⟩ (.int .i64 a0_1)).setCell ⟨gb223, 2, none⟩ (.int .i64 a0_2)).setCell ⟨gb223, 3, none⟩ (.int .i64 a0_3)).heap[gb214]? = some (.cells #[.int .i64 a0_0, .int .i64 a0_1, .int .i64 a0_2, .int .i64 a0_3] 23 (0, 0))) := ⟨(blk_far (blk_far (blk_far (blk_far BK214.out NB214_223.out _) NB214_223.out _) NB214_223.out _) NB214_223.out _)⟩
    have n215_ : Aside0 (((((wa2.setCell ⟨gb223, 0, none⟩ (.int .i64 a0_0)).setCell ⟨gb223, 1, none⟩ (.int .i64 a0_1)).setCell ⟨gb223, 2, none⟩ (.int .i64 a0_2)).setCell ⟨gb223, 3, none⟩ (.int .i64 a0_3)).heap[gb215]? = some (.cells #[.int .i64 a1_0, .int .i64 a1_1, .int .i64 a1_2, .int .i64 a1_3] 23 (0, 0))) := ⟨(blk_far (blk_far (blk_far (blk_far BK215.out NB215_223.out _) NB215_223.out _) NB215_223.out _) NB215_223.out _)⟩
    have n220_ : Aside0 (((((wa2.setCell ⟨gb223, 0, none⟩ (.int .i64 a0_0)).setCell ⟨gb223, 1, none⟩ (.int .i64 a0_1)).setCell ⟨gb223, 2, none⟩ (.int .i64 a0_2)).setCell ⟨gb223, 3, none⟩ (.int .i64 a0_3)).heap[gb220]? = some (.cells #[.int .i64 a0_0, .int .i64 a0_1, .int .i64 a0_2, .int .i64 a0_3] 23 (0, 0))) := ⟨(blk_far (blk_far (blk_far (blk_far BK220.out NB220_223.out _) NB220_223.out _) NB220_223.out _) NB220_223.out _)⟩
    have n221_ : Aside0 (((((wa2.setCell ⟨gb223, 0, none⟩ (.int .i64 a0_0)).setCell ⟨gb223, 1, none⟩ (.int .i64 a0_1)).setCell ⟨gb223, 2, none⟩ (.int .i64 a0_2)).setCell ⟨gb223, 3, none⟩ (.int .i64 a0_3)).heap[gb221]? = some (.cells #[.int .i64 a1_0, .int .i64 a1_1, .int .i64 a1_2, .int .i64 a1_3] 23 (0, 0))) := ⟨(blk_far (blk_far (blk_far (blk_far BK221.out NB221_223.out _) NB221_223.out _) NB221_223.out _) NB221_223.out _)⟩
    have n222_ : Aside0 (((((wa2.setCell ⟨gb223, 0, none⟩ (.int .i64 a0_0)).setCell ⟨gb223, 1, none⟩ (.int .i64 a0_1)).setCell ⟨gb223, 2, none⟩ (.int .i64 a0_2)).setCell ⟨gb223, 3, none⟩ (.int .i64 a0_3)).heap[gb222]? = some (.cells #[.int .i64 a0_0, .int .i64 a0_1, .int .i64 a0_2, .int .i64 a0_3] 23 (0, 0))) := ⟨(blk_far (blk_far (blk_far (blk_far BK222.out NB222_223.out _) NB222_223.out _) NB222_223.out _) NB222_223.out _)⟩
    have n223_ : Aside0 (((((wa2.setCell ⟨gb223, 0, none⟩ (.int .i64 a0_0)).setCell ⟨gb223, 1, none⟩ (.int .i64 a0_1)).setCell ⟨gb223, 2, none⟩ (.int .i64 a0_2)).setCell ⟨gb223, 3, none⟩ (.int .i64 a0_3)).heap[gb223]? = some (.cells #[.int .i64 a0_0, .int .i64 a0_1, .int .i64 a0_2, .int .i64 a0_3] 23 (0, 0))) := ⟨(blk_put (cs := #[.int .i64 a0_0, .int .i64 a0_1, .int .i64 a0_2, .int .i64 0]) (blk_put (cs := #[.int .i64 a0_0, .int .i64 a0_1, .int .i64 0, .int .i64 0]) (blk_put (cs := #[.int .i64 a0_0, .int .i64 0, .int .i64 0, .int .i64 0]) (blk_put (cs := #[.int .i64 0, .int .i64 0, .int .i64 0, .int .i64 0]) BK223.out 0 _ rfl) 1 _ rfl) 2 _ rfl) 3 _ rfl)⟩
    have nB_ : Aside0 (Below w.heap.size w ((((wa2.setCell ⟨gb223, 0, none⟩ (.int .i64 a0_0)).setCell ⟨gb223, 1, none⟩ (.int .i64 a0_1)).setCell ⟨gb223, 2, none⟩ (.int .i64 a0_2)).setCell ⟨gb223, 3, none⟩ (.int .i64 a0_3))) := ⟨(below_set (below_set (below_set (below_set HB.out GE223.out) GE223.out) GE223.out) GE223.out)⟩
    clear BK214 BK215 BK220 BK221 BK222 BK223 HB
    generalize ((((wa2.setCell ⟨gb223, 0, none⟩ (.int .i64 a0_0)).setCell ⟨gb223, 1, none⟩ (.int .i64 a0_1)).setCell ⟨gb223, 2, none⟩ (.int .i64 a0_2)).setCell ⟨gb223, 3, none⟩ (.int .i64 a0_3)) = wa3 at n214_ n215_ n220_ n221_ n222_ n223_ nB_ ⊢
    have BK214 := n214_
    have BK215 := n215_
    have BK220 := n220_
    have BK221 := n221_
    have BK222 := n222_
    have BK223 := n223_
    have HB := nB_
    clear n214_ n215_ n220_ n221_ n222_ n223_ nB_
    refine hK.out _ _ ⟨bc BK214 0, bc BK214 1, bc BK214 2, bc BK214 3, bc BK215 0, bc BK215 1, bc BK215 2, bc BK215 3⟩ (fun hHeld => ?_)
    clear hK; clear K
    refine done_ (done_of HT_.out (by kernel_rfl)) ?_
    have hnb51 := NB220_214.out
    have hnc51 := NB214_220.out
    have hnb52 := NB220_215.out
    have hnc52 := NB215_220.out
    have hnb53 := NB220_221.out
    have hnc53 := NB221_220.out
    have hnb54 := NB220_222.out
    have hnc54 := NB222_220.out
    have hnb55 := NB220_223.out
    have hnc55 := NB223_220.out
    have hcz56_0 : wa3.cell? ⟨gb220, 0, none⟩ = some (.int .i64 a0_0) := bc BK220 0
    have hcz56_1 : wa3.cell? ⟨gb220, 1, none⟩ = some (.int .i64 a0_1) := bc BK220 1
    have hcz56_2 : wa3.cell? ⟨gb220, 2, none⟩ = some (.int .i64 a0_2) := bc BK220 2
    have hcz56_3 : wa3.cell? ⟨gb220, 3, none⟩ = some (.int .i64 a0_3) := bc BK220 3
    have hfz56_0 := blk_frozen BK220.out 0
    have hfz56_1 := blk_frozen BK220.out 1
    have hfz56_2 := blk_frozen BK220.out 2
    have hfz56_3 := blk_frozen BK220.out 3
    have hnb57 := NB221_214.out
    have hnc57 := NB214_221.out
    have hnb58 := NB221_215.out
    have hnc58 := NB215_221.out
    have hnb59 := NB221_222.out
    have hnc59 := NB222_221.out
    have hnb60 := NB221_223.out
    have hnc60 := NB223_221.out
    have hcz61_0 : wa3.cell? ⟨gb221, 0, none⟩ = some (.int .i64 a1_0) := bc BK221 0
    have hcz61_1 : wa3.cell? ⟨gb221, 1, none⟩ = some (.int .i64 a1_1) := bc BK221 1
    have hcz61_2 : wa3.cell? ⟨gb221, 2, none⟩ = some (.int .i64 a1_2) := bc BK221 2
    have hcz61_3 : wa3.cell? ⟨gb221, 3, none⟩ = some (.int .i64 a1_3) := bc BK221 3
    have hfz61_0 := blk_frozen BK221.out 0
    have hfz61_1 := blk_frozen BK221.out 1
    have hfz61_2 := blk_frozen BK221.out 2
    have hfz61_3 := blk_frozen BK221.out 3
    have hnb62 := NB222_214.out
    have hnc62 := NB214_222.out
    have hnb63 := NB222_215.out
    have hnc63 := NB215_222.out
    have hnb64 := NB222_223.out
    have hnc64 := NB223_222.out
    have hcz65_0 : wa3.cell? ⟨gb222, 0, none⟩ = some (.int .i64 a0_0) := bc BK222 0
    have hcz65_1 : wa3.cell? ⟨gb222, 1, none⟩ = some (.int .i64 a0_1) := bc BK222 1
    have hcz65_2 : wa3.cell? ⟨gb222, 2, none⟩ = some (.int .i64 a0_2) := bc BK222 2
    have hcz65_3 : wa3.cell? ⟨gb222, 3, none⟩ = some (.int .i64 a0_3) := bc BK222 3
    have hfz65_0 := blk_frozen BK222.out 0
    have hfz65_1 := blk_frozen BK222.out 1
    have hfz65_2 := blk_frozen BK222.out 2
    have hfz65_3 := blk_frozen BK222.out 3
    have hnb66 := NB214_215.out
    have hnc66 := NB215_214.out
    have hnb67 := NB214_223.out
    have hnc67 := NB223_214.out
    have hcz68_0 : wa3.cell? ⟨gb214, 0, none⟩ = some (.int .i64 a0_0) := bc BK214 0
    have hcz68_1 : wa3.cell? ⟨gb214, 1, none⟩ = some (.int .i64 a0_1) := bc BK214 1
    have hcz68_2 : wa3.cell? ⟨gb214, 2, none⟩ = some (.int .i64 a0_2) := bc BK214 2
    have hcz68_3 : wa3.cell? ⟨gb214, 3, none⟩ = some (.int .i64 a0_3) := bc BK214 3
    have hfz68_0 := blk_frozen BK214.out 0
    have hfz68_1 := blk_frozen BK214.out 1
    have hfz68_2 := blk_frozen BK214.out 2
    have hfz68_3 := blk_frozen BK214.out 3
    have hnb69 := NB223_215.out
    have hnc69 := NB215_223.out
    have hcz70_0 : wa3.cell? ⟨gb223, 0, none⟩ = some (.int .i64 a0_0) := bc BK223 0
    have hcz70_1 : wa3.cell? ⟨gb223, 1, none⟩ = some (.int .i64 a0_1) := bc BK223 1
    have hcz70_2 : wa3.cell? ⟨gb223, 2, none⟩ = some (.int .i64 a0_2) := bc BK223 2
    have hcz70_3 : wa3.cell? ⟨gb223, 3, none⟩ = some (.int .i64 a0_3) := bc BK223 3
    have hfz70_0 := blk_frozen BK223.out 0
    have hfz70_1 := blk_frozen BK223.out 1
    have hfz70_2 := blk_frozen BK223.out 2
    have hfz70_3 := blk_frozen BK223.out 3
    go_upto_region 8 with (fail)
    go_cut [68] (fun v68 wc => ∃ (kq : Nat) (x68_27 : Bool), v68 = .bool x68_27 ∧ Aside0 (prebendlaw02_PlaneMoves.j1 kq x68_27 a0_0 a0_1 a0_2 a0_3 (wrap64 (a0_0 + a0_2)) a0_1 a0_2 a0_3 a0_0 (wrap64 (a0_1 + a0_3)) a0_2 a0_3 = some r) ∧ Aside0 (kq ≤ kj3) ∧ Aside0 (wc.heap[gb214]? = some (.cells #[.int .i64 a0_0, .int .i64 a0_1, .int .i64 a0_2, .int .i64 a0_3] 23 (0, 0))) ∧ Aside0 (wc.heap[gb215]? = some (.cells #[.int .i64 a1_0, .int .i64 a1_1, .int .i64 a1_2, .int .i64 a1_3] 23 (0, 0))) ∧ Aside0 (wc.heap[gb220]? = some (.cells #[.int .i64 (wrap64 (a0_0 + (wrap64 (a2)))), .int .i64 a0_1, .int .i64 a0_2, .int .i64 a0_3] 23 (0, 0))) ∧ Aside0 (wc.heap[gb221]? = some (.cells #[.int .i64 (wrap64 (a1_0 + (wrap64 (a2)))), .int .i64 a1_1, .int .i64 a1_2, .int .i64 a1_3] 23 (0, 0))) ∧ Aside0 (wc.heap[gb222]? = some (.cells #[.int .i64 (wrap64 (a0_0 + a0_2)), .int .i64 a0_1, .int .i64 a0_2, .int .i64 a0_3] 23 (0, 0))) ∧ Aside0 (wc.heap[gb223]? = some (.cells #[.int .i64 a0_0, .int .i64 (wrap64 (a0_1 + a0_3)), .int .i64 a0_2, .int .i64 a0_3] 23 (0, 0))) ∧ Aside0 (Below w.heap.size w wc))
    case first =>
     clear hcz56_0 hcz56_1 hcz56_2 hcz56_3 hcz61_0 hcz61_1 hcz61_2 hcz61_3 hcz65_0 hcz65_1 hcz65_2 hcz65_3 hcz68_0 hcz68_1 hcz68_2 hcz68_3 hcz70_0 hcz70_1 hcz70_2 hcz70_3 hfz56_0 hfz56_1 hfz56_2 hfz56_3 hfz61_0 hfz61_1 hfz61_2 hfz61_3 hfz65_0 hfz65_1 hfz65_2 hfz65_3 hfz68_0 hfz68_1 hfz68_2 hfz68_3 hfz70_0 hfz70_1 hfz70_2 hfz70_3 hnb51 hnb52 hnb53 hnb54 hnb55 hnb57 hnb58 hnb59 hnb60 hnb62 hnb63 hnb64 hnb66 hnb67 hnb69 hnc51 hnc52 hnc53 hnc54 hnc55 hnc57 hnc58 hnc59 hnc60 hnc62 hnc63 hnc64 hnc66 hnc67 hnc69
     have n214_ : Aside0 (((((wa3.setCell ⟨gb220, 0, none⟩ (.int .i64 (wrap64 (a0_0 + (wrap64 (a2)))))).setCell ⟨gb221, 0, none⟩ (.int .i64 (wrap64 (a1_0 + (wrap64 (a2)))))).setCell ⟨gb222, 0, none⟩ (.int .i64 (wrap64 (a0_0 + a0_2)))).setCell ⟨gb223, 1, none⟩ (.int .i64 (wrap64 (a0_1 + a0_3)))).heap[gb214]? = some (.cells #[.int .i64 a0_0, .int .i64 a0_1, .int .i64 a0_2, .int .i64 a0_3] 23 (0, 0))) := ⟨(blk_far (blk_far (blk_far (blk_far BK214.out NB214_220.out _) NB214_221.out _) NB214_222.out _) NB214_223.out _)⟩
     have n215_ : Aside0 (((((wa3.setCell ⟨gb220, 0, none⟩ (.int .i64 (wrap64 (a0_0 + (wrap64 (a2)))))).setCell ⟨gb221, 0, none⟩ (.int .i64 (wrap64 (a1_0 + (wrap64 (a2)))))).setCell ⟨gb222, 0, none⟩ (.int .i64 (wrap64 (a0_0 + a0_2)))).setCell ⟨gb223, 1, none⟩ (.int .i64 (wrap64 (a0_1 + a0_3)))).heap[gb215]? = some (.cells #[.int .i64 a1_0, .int .i64 a1_1, .int .i64 a1_2, .int .i64 a1_3] 23 (0, 0))) := ⟨(blk_far (blk_far (blk_far (blk_far BK215.out NB215_220.out _) NB215_221.out _) NB215_222.out _) NB215_223.out _)⟩
     have n220_ : Aside0 (((((wa3.setCell ⟨gb220, 0, none⟩ (.int .i64 (wrap64 (a0_0 + (wrap64 (a2)))))).setCell ⟨gb221, 0, none⟩ (.int .i64 (wrap64 (a1_0 + (wrap64 (a2)))))).setCell ⟨gb222, 0, none⟩ (.int .i64 (wrap64 (a0_0 + a0_2)))).setCell ⟨gb223, 1, none⟩ (.int .i64 (wrap64 (a0_1 + a0_3)))).heap[gb220]? = some (.cells #[.int .i64 (wrap64 (a0_0 + (wrap64 (a2)))), .int .i64 a0_1, .int .i64 a0_2, .int .i64 a0_3] 23 (0, 0))) := ⟨(blk_far (blk_far (blk_far (blk_put (cs := #[.int .i64 a0_0, .int .i64 a0_1, .int .i64 a0_2, .int .i64 a0_3]) BK220.out 0 _ rfl) NB220_221.out _) NB220_222.out _) NB220_223.out _)⟩
     have n221_ : Aside0 (((((wa3.setCell ⟨gb220, 0, none⟩ (.int .i64 (wrap64 (a0_0 + (wrap64 (a2)))))).setCell ⟨gb221, 0, none⟩ (.int .i64 (wrap64 (a1_0 + (wrap64 (a2)))))).setCell ⟨gb222, 0, none⟩ (.int .i64 (wrap64 (a0_0 + a0_2)))).setCell ⟨gb223, 1, none⟩ (.int .i64 (wrap64 (a0_1 + a0_3)))).heap[gb221]? = some (.cells #[.int .i64 (wrap64 (a1_0 + (wrap64 (a2)))), .int .i64 a1_1, .int .i64 a1_2, .int .i64 a1_3] 23 (0, 0))) := ⟨(blk_far (blk_far (blk_put (cs := #[.int .i64 a1_0, .int .i64 a1_1, .int .i64 a1_2, .int .i64 a1_3]) (blk_far BK221.out NB221_220.out _) 0 _ rfl) NB221_222.out _) NB221_223.out _)⟩
     have n222_ : Aside0 (((((wa3.setCell ⟨gb220, 0, none⟩ (.int .i64 (wrap64 (a0_0 + (wrap64 (a2)))))).setCell ⟨gb221, 0, none⟩ (.int .i64 (wrap64 (a1_0 + (wrap64 (a2)))))).setCell ⟨gb222, 0, none⟩ (.int .i64 (wrap64 (a0_0 + a0_2)))).setCell ⟨gb223, 1, none⟩ (.int .i64 (wrap64 (a0_1 + a0_3)))).heap[gb222]? = some (.cells #[.int .i64 (wrap64 (a0_0 + a0_2)), .int .i64 a0_1, .int .i64 a0_2, .int .i64 a0_3] 23 (0, 0))) := ⟨(blk_far (blk_put (cs := #[.int .i64 a0_0, .int .i64 a0_1, .int .i64 a0_2, .int .i64 a0_3]) (blk_far (blk_far BK222.out NB222_220.out _) NB222_221.out _) 0 _ rfl) NB222_223.out _)⟩
     have n223_ : Aside0 (((((wa3.setCell ⟨gb220, 0, none⟩ (.int .i64 (wrap64 (a0_0 + (wrap64 (a2)))))).setCell ⟨gb221, 0, none⟩ (.int .i64 (wrap64 (a1_0 + (wrap64 (a2)))))).setCell ⟨gb222, 0, none⟩ (.int .i64 (wrap64 (a0_0 + a0_2)))).setCell ⟨gb223, 1, none⟩ (.int .i64 (wrap64 (a0_1 + a0_3)))).heap[gb223]? = some (.cells #[.int .i64 a0_0, .int .i64 (wrap64 (a0_1 + a0_3)), .int .i64 a0_2, .int .i64 a0_3] 23 (0, 0))) := ⟨(blk_put (cs := #[.int .i64 a0_0, .int .i64 a0_1, .int .i64 a0_2, .int .i64 a0_3]) (blk_far (blk_far (blk_far BK223.out NB223_220.out _) NB223_221.out _) NB223_222.out _) 1 _ rfl)⟩
     have nB_ : Aside0 (Below w.heap.size w ((((wa3.setCell ⟨gb220, 0, none⟩ (.int .i64 (wrap64 (a0_0 + (wrap64 (a2)))))).setCell ⟨gb221, 0, none⟩ (.int .i64 (wrap64 (a1_0 + (wrap64 (a2)))))).setCell ⟨gb222, 0, none⟩ (.int .i64 (wrap64 (a0_0 + a0_2)))).setCell ⟨gb223, 1, none⟩ (.int .i64 (wrap64 (a0_1 + a0_3))))) := ⟨(below_set (below_set (below_set (below_set HB.out GE220.out) GE221.out) GE222.out) GE223.out)⟩
     clear BK214 BK215 BK220 BK221 BK222 BK223 HB
     generalize ((((wa3.setCell ⟨gb220, 0, none⟩ (.int .i64 (wrap64 (a0_0 + (wrap64 (a2)))))).setCell ⟨gb221, 0, none⟩ (.int .i64 (wrap64 (a1_0 + (wrap64 (a2)))))).setCell ⟨gb222, 0, none⟩ (.int .i64 (wrap64 (a0_0 + a0_2)))).setCell ⟨gb223, 1, none⟩ (.int .i64 (wrap64 (a0_1 + a0_3)))) = w77 at n214_ n215_ n220_ n221_ n222_ n223_ nB_ ⊢
     have BK214 := n214_
     have BK215 := n215_
     have BK220 := n220_
     have BK221 := n221_
     have BK222 := n222_
     have BK223 := n223_
     have HB := nB_
     clear n214_ n215_ n220_ n221_ n222_ n223_ nB_
     have H := HC28.out
     clear HC28
     replace H := Option.bind_eq_some_iff.mp H
     obtain ⟨t224, A710, H⟩ := H
     replace H : (if t224 = true then ((plane_Good.f (wrap64 (a1_0 + (wrap64 (a2)))) a1_1 a1_2 a1_3).bind fun t225 => (if t225 = true then ((plane_Meets.f (wrap64 (a0_0 + (wrap64 (a2)))) a0_1 a0_2 a0_3 (wrap64 (a1_0 + (wrap64 (a2)))) a1_1 a1_2 a1_3).bind fun t226 => ((plane_Meets.f a0_0 a0_1 a0_2 a0_3 a1_0 a1_1 a1_2 a1_3).bind fun t227 => (prebendlaw02_PlaneMoves.j1 kj3 (t226 != t227) a0_0 a0_1 a0_2 a0_3 (wrap64 (a0_0 + a0_2)) a0_1 a0_2 a0_3 a0_0 (wrap64 (a0_1 + a0_3)) a0_2 a0_3))) else (prebendlaw02_PlaneMoves.j1 kj3 false a0_0 a0_1 a0_2 a0_3 (wrap64 (a0_0 + a0_2)) a0_1 a0_2 a0_3 a0_0 (wrap64 (a0_1 + a0_3)) a0_2 a0_3))) else (prebendlaw02_PlaneMoves.j1 kj3 false a0_0 a0_1 a0_2 a0_3 (wrap64 (a0_0 + a0_2)) a0_1 a0_2 a0_3 a0_0 (wrap64 (a0_1 + a0_3)) a0_2 a0_3)) = some r := H
     have A71 := Aside0.mk A710
     clear A710
     by_cases c72 : t224 = true
     ·subst c72
      have H1 : ((plane_Good.f (wrap64 (a1_0 + (wrap64 (a2)))) a1_1 a1_2 a1_3).bind fun t225 => (if t225 = true then ((plane_Meets.f (wrap64 (a0_0 + (wrap64 (a2)))) a0_1 a0_2 a0_3 (wrap64 (a1_0 + (wrap64 (a2)))) a1_1 a1_2 a1_3).bind fun t226 => ((plane_Meets.f a0_0 a0_1 a0_2 a0_3 a1_0 a1_1 a1_2 a1_3).bind fun t227 => (prebendlaw02_PlaneMoves.j1 kj3 (t226 != t227) a0_0 a0_1 a0_2 a0_3 (wrap64 (a0_0 + a0_2)) a0_1 a0_2 a0_3 a0_0 (wrap64 (a0_1 + a0_3)) a0_2 a0_3))) else (prebendlaw02_PlaneMoves.j1 kj3 false a0_0 a0_1 a0_2 a0_3 (wrap64 (a0_0 + a0_2)) a0_1 a0_2 a0_3 a0_0 (wrap64 (a0_1 + a0_3)) a0_2 a0_3))) = some r := by rw [if_pos rfl] at H; exact H
      clear H
      have H := H1
      clear H1
      replace H := Option.bind_eq_some_iff.mp H
      obtain ⟨t225, A730, H⟩ := H
      replace H : (if t225 = true then ((plane_Meets.f (wrap64 (a0_0 + (wrap64 (a2)))) a0_1 a0_2 a0_3 (wrap64 (a1_0 + (wrap64 (a2)))) a1_1 a1_2 a1_3).bind fun t226 => ((plane_Meets.f a0_0 a0_1 a0_2 a0_3 a1_0 a1_1 a1_2 a1_3).bind fun t227 => (prebendlaw02_PlaneMoves.j1 kj3 (t226 != t227) a0_0 a0_1 a0_2 a0_3 (wrap64 (a0_0 + a0_2)) a0_1 a0_2 a0_3 a0_0 (wrap64 (a0_1 + a0_3)) a0_2 a0_3))) else (prebendlaw02_PlaneMoves.j1 kj3 false a0_0 a0_1 a0_2 a0_3 (wrap64 (a0_0 + a0_2)) a0_1 a0_2 a0_3 a0_0 (wrap64 (a0_1 + a0_3)) a0_2 a0_3)) = some r := H
      have A73 := Aside0.mk A730
      clear A730
      by_cases c74 : t225 = true
      ·subst c74
       have H1 : ((plane_Meets.f (wrap64 (a0_0 + (wrap64 (a2)))) a0_1 a0_2 a0_3 (wrap64 (a1_0 + (wrap64 (a2)))) a1_1 a1_2 a1_3).bind fun t226 => ((plane_Meets.f a0_0 a0_1 a0_2 a0_3 a1_0 a1_1 a1_2 a1_3).bind fun t227 => (prebendlaw02_PlaneMoves.j1 kj3 (t226 != t227) a0_0 a0_1 a0_2 a0_3 (wrap64 (a0_0 + a0_2)) a0_1 a0_2 a0_3 a0_0 (wrap64 (a0_1 + a0_3)) a0_2 a0_3))) = some r := by rw [if_pos rfl] at H; exact H
       clear H
       have H := H1
       clear H1
       replace H := Option.bind_eq_some_iff.mp H
       obtain ⟨t226, A750, H⟩ := H
       replace H : ((plane_Meets.f a0_0 a0_1 a0_2 a0_3 a1_0 a1_1 a1_2 a1_3).bind fun t227 => (prebendlaw02_PlaneMoves.j1 kj3 (t226 != t227) a0_0 a0_1 a0_2 a0_3 (wrap64 (a0_0 + a0_2)) a0_1 a0_2 a0_3 a0_0 (wrap64 (a0_1 + a0_3)) a0_2 a0_3)) = some r := H
       have A75 := Aside0.mk A750
       clear A750
       replace H := Option.bind_eq_some_iff.mp H
       obtain ⟨t227, A760, H⟩ := H
       replace H : (prebendlaw02_PlaneMoves.j1 kj3 (t226 != t227) a0_0 a0_1 a0_2 a0_3 (wrap64 (a0_0 + a0_2)) a0_1 a0_2 a0_3 a0_0 (wrap64 (a0_1 + a0_3)) a0_2 a0_3) = some r := H
       have A76 := Aside0.mk A760
       clear A760
       have H' := Aside0.mk H
       clear H
       try go_wp2
       replace BK214 := Aside0.mk (blk_drew BK214.out)
       replace BK215 := Aside0.mk (blk_drew BK215.out)
       replace BK220 := Aside0.mk (blk_drew BK220.out)
       replace BK221 := Aside0.mk (blk_drew BK221.out)
       replace BK222 := Aside0.mk (blk_drew BK222.out)
       replace BK223 := Aside0.mk (blk_drew BK223.out)
       replace HB := Aside0.mk (below_drew1 HB.out)
       refine start_ (n := 15) (S := fun w' => w'.cell? ⟨gb220, 0, none⟩ = some (.int .i64 (wrap64 (a0_0 + (wrap64 (a2))))) ∧ w'.cell? ⟨gb220, 1, none⟩ = some (.int .i64 a0_1) ∧ w'.cell? ⟨gb220, 2, none⟩ = some (.int .i64 a0_2) ∧ w'.cell? ⟨gb220, 3, none⟩ = some (.int .i64 a0_3) ∧ w'.cell? ⟨gb221, 0, none⟩ = some (.int .i64 (wrap64 (a1_0 + (wrap64 (a2))))) ∧ w'.cell? ⟨gb221, 1, none⟩ = some (.int .i64 a1_1) ∧ w'.cell? ⟨gb221, 2, none⟩ = some (.int .i64 a1_2) ∧ w'.cell? ⟨gb221, 3, none⟩ = some (.int .i64 a1_3) ∧ w'.cell? ⟨gb214, 0, none⟩ = some (.int .i64 a0_0) ∧ w'.cell? ⟨gb214, 1, none⟩ = some (.int .i64 a0_1) ∧ w'.cell? ⟨gb214, 2, none⟩ = some (.int .i64 a0_2) ∧ w'.cell? ⟨gb214, 3, none⟩ = some (.int .i64 a0_3) ∧ w'.cell? ⟨gb215, 0, none⟩ = some (.int .i64 a1_0) ∧ w'.cell? ⟨gb215, 1, none⟩ = some (.int .i64 a1_1) ∧ w'.cell? ⟨gb215, 2, none⟩ = some (.int .i64 a1_2) ∧ w'.cell? ⟨gb215, 3, none⟩ = some (.int .i64 a1_3)) (ds := []) #[false, false, false, false, false, false, false, false, false, false, false, false, false, false, false] (by kernel_rfl) rfl rfl ⟨bc BK220 0, bc BK220 1, bc BK220 2, bc BK220 3, bc BK221 0, bc BK221 1, bc BK221 2, bc BK221 3, bc BK214 0, bc BK214 1, bc BK214 2, bc BK214 3, bc BK215 0, bc BK215 1, bc BK215 2, bc BK215 3⟩ (fun hHeld => ?_); refine with_tabW prebendlaw02_PlaneMoves.tab8 prebendlaw02_PlaneMoves.bits8 (fun HT_ HW_ => ?_)
       generalize w77.drew = w78 at BK214 BK215 BK220 BK221 BK222 BK223 HB hHeld ⊢
       refine plan_ [(0, 54)] ?_
       refine planT_ (v := ?_) (a' := ?_) rfl rfl (take_ofW HT_.out HW_.out (by kernel_rfl)) (fun _ _ _ h => h) (Or.inl ⟨by rfl, ?_⟩) hHeld ?_ ?_; rotate_left; (rintro w' ⟨s0, s1, s2, s3, s4, s5, s6, s7, s8, s9, s10, s11, s12, s13, s14, s15⟩; go_simp; with_reducible rfl); rotate_left; (simp only [Act.put, List.setIfInBounds_toArray, List.set_cons_zero, List.set_cons_succ, i64_w, i32_w]; rfl)
       refine planEnd_ ?_
       refine one_ (i := 1) (N := some 55) #[true, true, false, false, false, false, false, false, false, false, false, false, false, false, false] rfl rfl (one_of HT_.out (by kernel_rfl)) (by decide) (fun K hK => ?_)
       refine goes_ Try.func9 (by kernel_rfl) rfl #[.agg #[.int .i64 (wrap64 (a0_0 + (wrap64 (a2)))), .int .i64 a0_1, .int .i64 a0_2, .int .i64 a0_3]] (by rfl) rfl rfl mt ?_
       with_reducible refine (plane_Good.calls (wrap64 (a0_0 + (wrap64 (a2)))) a0_1 a0_2 a0_3 true _ A71.out).mono ?_
       rintro e w79 ⟨rfl, hb⟩
       refine ⟨_, rfl, ?_⟩
       replace BK214 := sB hb (mBK BK214.out)
       replace BK215 := sB hb (mBK BK215.out)
       replace BK220 := sB hb (mBK BK220.out)
       replace BK221 := sB hb (mBK BK221.out)
       replace BK222 := sB hb (mBK BK222.out)
       replace BK223 := sB hb (mBK BK223.out)
       replace HB := Aside0.mk (below_step (mBs HB.out) hb)
       (try clear hb); (try clear hb2); (try clear hk); (try clear hi)
       refine hK.out _ _ ⟨bc BK220 0, bc BK220 1, bc BK220 2, bc BK220 3, bc BK221 0, bc BK221 1, bc BK221 2, bc BK221 3, bc BK214 0, bc BK214 1, bc BK214 2, bc BK214 3, bc BK215 0, bc BK215 1, bc BK215 2, bc BK215 3⟩ (fun hHeld => ?_)
       clear hK; clear K
       refine norm_ (a' := ?_) ?_ ?_
       rotate_left
       ·show Act.put _ (some 55) _ = _
        simp only [Act.put, List.setIfInBounds_toArray, List.set_cons_zero, List.set_cons_succ, i64_w, i32_w]
        rfl
       refine plan_ [(2, 56)] ?_
       refine planP_ (v := ?_) (a' := ?_) rfl rfl (any_of HT_.out (by kernel_rfl)) (fun _ _ _ h => h) (Or.inl ⟨by rfl, ?_⟩) ?_ ?_; rotate_left; (intro w'; go_simp; with_reducible rfl); rotate_left; (simp only [Act.put, List.setIfInBounds_toArray, List.set_cons_zero, List.set_cons_succ, i64_w, i32_w]; rfl)
       refine planEnd_ ?_
       refine plan_ [(3, 57)] ?_
       refine planT_ (v := ?_) (a' := ?_) rfl rfl (take_ofW HT_.out HW_.out (by kernel_rfl)) (fun _ _ _ h => h) (Or.inl ⟨by rfl, ?_⟩) hHeld ?_ ?_; rotate_left; (rintro w' ⟨s0, s1, s2, s3, s4, s5, s6, s7, s8, s9, s10, s11, s12, s13, s14, s15⟩; go_simp; with_reducible rfl); rotate_left; (simp only [Act.put, List.setIfInBounds_toArray, List.set_cons_zero, List.set_cons_succ, i64_w, i32_w]; rfl)
       refine planEnd_ ?_
       refine one_ (i := 4) (N := some 58) #[true, true, true, true, true, false, false, false, false, false, false, false, false, false, false] rfl rfl (one_of HT_.out (by kernel_rfl)) (by decide) (fun K hK => ?_)
       refine goes_ Try.func9 (by kernel_rfl) rfl #[.agg #[.int .i64 (wrap64 (a1_0 + (wrap64 (a2)))), .int .i64 a1_1, .int .i64 a1_2, .int .i64 a1_3]] (by rfl) rfl rfl mt ?_
       with_reducible refine (plane_Good.calls (wrap64 (a1_0 + (wrap64 (a2)))) a1_1 a1_2 a1_3 true _ A73.out).mono ?_
       rintro e w80 ⟨rfl, hb⟩
       refine ⟨_, rfl, ?_⟩
       replace BK214 := sB hb (mBK BK214.out)
       replace BK215 := sB hb (mBK BK215.out)
       replace BK220 := sB hb (mBK BK220.out)
       replace BK221 := sB hb (mBK BK221.out)
       replace BK222 := sB hb (mBK BK222.out)
       replace BK223 := sB hb (mBK BK223.out)
       replace HB := Aside0.mk (below_step (mBs HB.out) hb)
       (try clear hb); (try clear hb2); (try clear hk); (try clear hi)
       refine hK.out _ _ ⟨bc BK220 0, bc BK220 1, bc BK220 2, bc BK220 3, bc BK221 0, bc BK221 1, bc BK221 2, bc BK221 3, bc BK214 0, bc BK214 1, bc BK214 2, bc BK214 3, bc BK215 0, bc BK215 1, bc BK215 2, bc BK215 3⟩ (fun hHeld => ?_)
       clear hK; clear K
       refine norm_ (a' := ?_) ?_ ?_
       rotate_left
       ·show Act.put _ (some 58) _ = _
        simp only [Act.put, List.setIfInBounds_toArray, List.set_cons_zero, List.set_cons_succ, i64_w, i32_w]
        rfl
       refine plan_ [(5, 59), (6, 60)] ?_
       iterate 2 (refine planP_ (v := ?_) (a' := ?_) rfl rfl (any_of HT_.out (by kernel_rfl)) (fun _ _ _ h => h) (Or.inl ⟨by rfl, ?_⟩) ?_ ?_; rotate_left; (intro w'; go_simp; with_reducible rfl); rotate_left; (simp only [Act.put, List.setIfInBounds_toArray, List.set_cons_zero, List.set_cons_succ, i64_w, i32_w]; rfl))
       refine planEnd_ ?_
       refine plan_ [(7, 61), (8, 62), (10, 64), (11, 65)] ?_
       iterate 4 (refine planT_ (v := ?_) (a' := ?_) rfl rfl (take_ofW HT_.out HW_.out (by kernel_rfl)) (fun _ _ _ h => h) (Or.inl ⟨by rfl, ?_⟩) hHeld ?_ ?_; rotate_left; (rintro w' ⟨s0, s1, s2, s3, s4, s5, s6, s7, s8, s9, s10, s11, s12, s13, s14, s15⟩; go_simp; with_reducible rfl); rotate_left; (simp only [Act.put, List.setIfInBounds_toArray, List.set_cons_zero, List.set_cons_succ, i64_w, i32_w]; rfl))
       refine planEnd_ ?_
       refine one_ (i := 9) (N := some 63) #[true, true, true, true, true, true, true, true, true, true, true, true, false, false, false] rfl rfl (one_of HT_.out (by kernel_rfl)) (by decide) (fun K hK => ?_)
       refine goes_ Try.func13 (by kernel_rfl) rfl #[.agg #[.int .i64 (wrap64 (a0_0 + (wrap64 (a2)))), .int .i64 a0_1, .int .i64 a0_2, .int .i64 a0_3], .agg #[.int .i64 (wrap64 (a1_0 + (wrap64 (a2)))), .int .i64 a1_1, .int .i64 a1_2, .int .i64 a1_3]] (by rfl) rfl rfl mt ?_
       with_reducible refine (plane_Meets.calls (wrap64 (a0_0 + (wrap64 (a2)))) a0_1 a0_2 a0_3 (wrap64 (a1_0 + (wrap64 (a2)))) a1_1 a1_2 a1_3 t226 _ A75.out).mono ?_
       rintro e w81 ⟨rfl, hb⟩
       refine ⟨_, rfl, ?_⟩
       replace BK214 := sB hb (mBK BK214.out)
       replace BK215 := sB hb (mBK BK215.out)
       replace BK220 := sB hb (mBK BK220.out)
       replace BK221 := sB hb (mBK BK221.out)
       replace BK222 := sB hb (mBK BK222.out)
       replace BK223 := sB hb (mBK BK223.out)
       replace HB := Aside0.mk (below_step (mBs HB.out) hb)
       (try clear hb); (try clear hb2); (try clear hk); (try clear hi)
       refine hK.out _ _ ⟨bc BK220 0, bc BK220 1, bc BK220 2, bc BK220 3, bc BK221 0, bc BK221 1, bc BK221 2, bc BK221 3, bc BK214 0, bc BK214 1, bc BK214 2, bc BK214 3, bc BK215 0, bc BK215 1, bc BK215 2, bc BK215 3⟩ (fun hHeld => ?_)
       clear hK; clear K
       refine norm_ (a' := ?_) ?_ ?_
       rotate_left
       ·show Act.put _ (some 63) _ = _
        simp only [Act.put, List.setIfInBounds_toArray, List.set_cons_zero, List.set_cons_succ, i64_w, i32_w]
        rfl
       refine one_ (i := 12) (N := some 66) #[true, true, true, true, true, true, true, true, true, true, true, true, true, false, false] rfl rfl (one_of HT_.out (by kernel_rfl)) (by decide) (fun K hK => ?_)
       refine goes_ Try.func13 (by kernel_rfl) rfl #[.agg #[.int .i64 a0_0, .int .i64 a0_1, .int .i64 a0_2, .int .i64 a0_3], .agg #[.int .i64 a1_0, .int .i64 a1_1, .int .i64 a1_2, .int .i64 a1_3]] (by rfl) rfl rfl mt ?_
       with_reducible refine (plane_Meets.calls a0_0 a0_1 a0_2 a0_3 a1_0 a1_1 a1_2 a1_3 t227 _ A76.out).mono ?_
       rintro e w82 ⟨rfl, hb⟩
       refine ⟨_, rfl, ?_⟩
       replace BK214 := sB hb (mBK BK214.out)
       replace BK215 := sB hb (mBK BK215.out)
       replace BK220 := sB hb (mBK BK220.out)
       replace BK221 := sB hb (mBK BK221.out)
       replace BK222 := sB hb (mBK BK222.out)
       replace BK223 := sB hb (mBK BK223.out)
       replace HB := Aside0.mk (below_step (mBs HB.out) hb)
       (try clear hb); (try clear hb2); (try clear hk); (try clear hi)
       refine hK.out _ _ ⟨bc BK220 0, bc BK220 1, bc BK220 2, bc BK220 3, bc BK221 0, bc BK221 1, bc BK221 2, bc BK221 3, bc BK214 0, bc BK214 1, bc BK214 2, bc BK214 3, bc BK215 0, bc BK215 1, bc BK215 2, bc BK215 3⟩ (fun hHeld => ?_)
       clear hK; clear K
       refine norm_ (a' := ?_) ?_ ?_
       rotate_left
       ·show Act.put _ (some 66) _ = _
        simp only [Act.put, List.setIfInBounds_toArray, List.set_cons_zero, List.set_cons_succ, i64_w, i32_w]
        rfl
       refine plan_ [(13, 67), (14, 68)] ?_
       iterate 2 (refine planP_ (v := ?_) (a' := ?_) rfl rfl (any_of HT_.out (by kernel_rfl)) (fun _ _ _ h => h) (Or.inl ⟨by rfl, ?_⟩) ?_ ?_; rotate_left; (intro w'; go_simp; with_reducible rfl); rotate_left; (simp only [Act.put, List.setIfInBounds_toArray, List.set_cons_zero, List.set_cons_succ, i64_w, i32_w]; rfl))
       refine planEnd_ ?_
       refine done_ (done_of HT_.out (by kernel_rfl)) ?_
       try go_wp2
       go_meet
       case rel => exact ⟨_, ((t226 != t227)), ez, H', ⟨by have := HJ3.out; first | omega | exact Nat.le_refl _⟩, ⟨mBK BK214.out⟩, ⟨mBK BK215.out⟩, ⟨mBK BK220.out⟩, ⟨mBK BK221.out⟩, ⟨mBK BK222.out⟩, ⟨mBK BK223.out⟩, ⟨mBs HB.out⟩⟩
      ·replace c74 := Bool.eq_false_iff.mpr c74
       subst c74
       have H1 : (prebendlaw02_PlaneMoves.j1 kj3 false a0_0 a0_1 a0_2 a0_3 (wrap64 (a0_0 + a0_2)) a0_1 a0_2 a0_3 a0_0 (wrap64 (a0_1 + a0_3)) a0_2 a0_3) = some r := by rw [if_neg (show ¬ (false = true) by decide)] at H; exact H
       clear H
       have H := H1
       clear H1
       have H' := Aside0.mk H
       clear H
       try go_wp2
       replace BK214 := Aside0.mk (blk_drew BK214.out)
       replace BK215 := Aside0.mk (blk_drew BK215.out)
       replace BK220 := Aside0.mk (blk_drew BK220.out)
       replace BK221 := Aside0.mk (blk_drew BK221.out)
       replace BK222 := Aside0.mk (blk_drew BK222.out)
       replace BK223 := Aside0.mk (blk_drew BK223.out)
       replace HB := Aside0.mk (below_drew1 HB.out)
       refine start_ (n := 15) (S := fun w' => w'.cell? ⟨gb220, 0, none⟩ = some (.int .i64 (wrap64 (a0_0 + (wrap64 (a2))))) ∧ w'.cell? ⟨gb220, 1, none⟩ = some (.int .i64 a0_1) ∧ w'.cell? ⟨gb220, 2, none⟩ = some (.int .i64 a0_2) ∧ w'.cell? ⟨gb220, 3, none⟩ = some (.int .i64 a0_3) ∧ w'.cell? ⟨gb221, 0, none⟩ = some (.int .i64 (wrap64 (a1_0 + (wrap64 (a2))))) ∧ w'.cell? ⟨gb221, 1, none⟩ = some (.int .i64 a1_1) ∧ w'.cell? ⟨gb221, 2, none⟩ = some (.int .i64 a1_2) ∧ w'.cell? ⟨gb221, 3, none⟩ = some (.int .i64 a1_3)) (ds := []) #[false, false, false, false, false, false, false, false, false, false, false, false, false, false, false] (by kernel_rfl) rfl rfl ⟨bc BK220 0, bc BK220 1, bc BK220 2, bc BK220 3, bc BK221 0, bc BK221 1, bc BK221 2, bc BK221 3⟩ (fun hHeld => ?_); refine with_tabW prebendlaw02_PlaneMoves.tab8 prebendlaw02_PlaneMoves.bits8 (fun HT_ HW_ => ?_)
       generalize w77.drew = w84 at BK214 BK215 BK220 BK221 BK222 BK223 HB hHeld ⊢
       refine plan_ [(0, 54)] ?_
       refine planT_ (v := ?_) (a' := ?_) rfl rfl (take_ofW HT_.out HW_.out (by kernel_rfl)) (fun _ _ _ h => h) (Or.inl ⟨by rfl, ?_⟩) hHeld ?_ ?_; rotate_left; (rintro w' ⟨s0, s1, s2, s3, s4, s5, s6, s7⟩; go_simp; with_reducible rfl); rotate_left; (simp only [Act.put, List.setIfInBounds_toArray, List.set_cons_zero, List.set_cons_succ, i64_w, i32_w]; rfl)
       refine planEnd_ ?_
       refine one_ (i := 1) (N := some 55) #[true, true, false, false, false, false, false, false, false, false, false, false, false, false, false] rfl rfl (one_of HT_.out (by kernel_rfl)) (by decide) (fun K hK => ?_)
       refine goes_ Try.func9 (by kernel_rfl) rfl #[.agg #[.int .i64 (wrap64 (a0_0 + (wrap64 (a2)))), .int .i64 a0_1, .int .i64 a0_2, .int .i64 a0_3]] (by rfl) rfl rfl mt ?_
       with_reducible refine (plane_Good.calls (wrap64 (a0_0 + (wrap64 (a2)))) a0_1 a0_2 a0_3 true _ A71.out).mono ?_
       rintro e w85 ⟨rfl, hb⟩
       refine ⟨_, rfl, ?_⟩
       replace BK214 := sB hb (mBK BK214.out)
       replace BK215 := sB hb (mBK BK215.out)
       replace BK220 := sB hb (mBK BK220.out)
       replace BK221 := sB hb (mBK BK221.out)
       replace BK222 := sB hb (mBK BK222.out)
       replace BK223 := sB hb (mBK BK223.out)
       replace HB := Aside0.mk (below_step (mBs HB.out) hb)
       (try clear hb); (try clear hb2); (try clear hk); (try clear hi)
       refine hK.out _ _ ⟨bc BK220 0, bc BK220 1, bc BK220 2, bc BK220 3, bc BK221 0, bc BK221 1, bc BK221 2, bc BK221 3⟩ (fun hHeld => ?_)
       clear hK; clear K
       refine norm_ (a' := ?_) ?_ ?_
       rotate_left
       ·show Act.put _ (some 55) _ = _
        simp only [Act.put, List.setIfInBounds_toArray, List.set_cons_zero, List.set_cons_succ, i64_w, i32_w]
        rfl
       refine plan_ [(2, 56)] ?_
       refine planP_ (v := ?_) (a' := ?_) rfl rfl (any_of HT_.out (by kernel_rfl)) (fun _ _ _ h => h) (Or.inl ⟨by rfl, ?_⟩) ?_ ?_; rotate_left; (intro w'; go_simp; with_reducible rfl); rotate_left; (simp only [Act.put, List.setIfInBounds_toArray, List.set_cons_zero, List.set_cons_succ, i64_w, i32_w]; rfl)
       refine planEnd_ ?_
       refine plan_ [(3, 57)] ?_
       refine planT_ (v := ?_) (a' := ?_) rfl rfl (take_ofW HT_.out HW_.out (by kernel_rfl)) (fun _ _ _ h => h) (Or.inl ⟨by rfl, ?_⟩) hHeld ?_ ?_; rotate_left; (rintro w' ⟨s0, s1, s2, s3, s4, s5, s6, s7⟩; go_simp; with_reducible rfl); rotate_left; (simp only [Act.put, List.setIfInBounds_toArray, List.set_cons_zero, List.set_cons_succ, i64_w, i32_w]; rfl)
       refine planEnd_ ?_
       refine one_ (i := 4) (N := some 58) #[true, true, true, true, true, false, false, false, false, false, false, false, false, false, false] rfl rfl (one_of HT_.out (by kernel_rfl)) (by decide) (fun K hK => ?_)
       refine goes_ Try.func9 (by kernel_rfl) rfl #[.agg #[.int .i64 (wrap64 (a1_0 + (wrap64 (a2)))), .int .i64 a1_1, .int .i64 a1_2, .int .i64 a1_3]] (by rfl) rfl rfl mt ?_
       with_reducible refine (plane_Good.calls (wrap64 (a1_0 + (wrap64 (a2)))) a1_1 a1_2 a1_3 false _ A73.out).mono ?_
       rintro e w86 ⟨rfl, hb⟩
       refine ⟨_, rfl, ?_⟩
       replace BK214 := sB hb (mBK BK214.out)
       replace BK215 := sB hb (mBK BK215.out)
       replace BK220 := sB hb (mBK BK220.out)
       replace BK221 := sB hb (mBK BK221.out)
       replace BK222 := sB hb (mBK BK222.out)
       replace BK223 := sB hb (mBK BK223.out)
       replace HB := Aside0.mk (below_step (mBs HB.out) hb)
       (try clear hb); (try clear hb2); (try clear hk); (try clear hi)
       refine hK.out _ _ ⟨bc BK220 0, bc BK220 1, bc BK220 2, bc BK220 3, bc BK221 0, bc BK221 1, bc BK221 2, bc BK221 3⟩ (fun hHeld => ?_)
       clear hK; clear K
       refine norm_ (a' := ?_) ?_ ?_
       rotate_left
       ·show Act.put _ (some 58) _ = _
        simp only [Act.put, List.setIfInBounds_toArray, List.set_cons_zero, List.set_cons_succ, i64_w, i32_w]
        rfl
       refine plan_ [(5, 59), (6, 60)] ?_
       iterate 2 (refine planP_ (v := ?_) (a' := ?_) rfl rfl (any_of HT_.out (by kernel_rfl)) (fun _ _ _ h => h) (Or.inl ⟨by rfl, ?_⟩) ?_ ?_; rotate_left; (intro w'; go_simp; with_reducible rfl); rotate_left; (simp only [Act.put, List.setIfInBounds_toArray, List.set_cons_zero, List.set_cons_succ, i64_w, i32_w]; rfl))
       refine planEnd_ ?_
       refine plan_ [(7, 61), (8, 62), (9, 63), (10, 64), (11, 65), (12, 66), (13, 67)] ?_
       iterate 7 (refine planP_ (v := undef) (a' := ?_) rfl rfl (any_of HT_.out (by kernel_rfl)) (fun _ _ _ h => h) (Or.inr ⟨by rfl, rfl⟩) ?_ ?_; rotate_left; (simp only [Act.put, List.setIfInBounds_toArray, List.set_cons_zero, List.set_cons_succ, i64_w, i32_w]; rfl))
       refine planEnd_ ?_
       refine plan_ [(14, 68)] ?_
       refine planP_ (v := ?_) (a' := ?_) rfl rfl (any_of HT_.out (by kernel_rfl)) (fun _ _ _ h => h) (Or.inl ⟨by rfl, ?_⟩) ?_ ?_; rotate_left; (intro w'; go_simp; with_reducible rfl); rotate_left; (simp only [Act.put, List.setIfInBounds_toArray, List.set_cons_zero, List.set_cons_succ, i64_w, i32_w]; rfl)
       refine planEnd_ ?_
       refine done_ (done_of HT_.out (by kernel_rfl)) ?_
       try go_wp2
       go_meet
       case rel => exact ⟨_, (false), ez, H', ⟨by have := HJ3.out; first | omega | exact Nat.le_refl _⟩, ⟨mBK BK214.out⟩, ⟨mBK BK215.out⟩, ⟨mBK BK220.out⟩, ⟨mBK BK221.out⟩, ⟨mBK BK222.out⟩, ⟨mBK BK223.out⟩, ⟨mBs HB.out⟩⟩
     ·replace c72 := Bool.eq_false_iff.mpr c72
      subst c72
      have H1 : (prebendlaw02_PlaneMoves.j1 kj3 false a0_0 a0_1 a0_2 a0_3 (wrap64 (a0_0 + a0_2)) a0_1 a0_2 a0_3 a0_0 (wrap64 (a0_1 + a0_3)) a0_2 a0_3) = some r := by rw [if_neg (show ¬ (false = true) by decide)] at H; exact H
      clear H
      have H := H1
      clear H1
      have H' := Aside0.mk H
      clear H
      try go_wp2
      replace BK214 := Aside0.mk (blk_drew BK214.out)
      replace BK215 := Aside0.mk (blk_drew BK215.out)
      replace BK220 := Aside0.mk (blk_drew BK220.out)
      replace BK221 := Aside0.mk (blk_drew BK221.out)
      replace BK222 := Aside0.mk (blk_drew BK222.out)
      replace BK223 := Aside0.mk (blk_drew BK223.out)
      replace HB := Aside0.mk (below_drew1 HB.out)
      refine start_ (n := 15) (S := fun w' => w'.cell? ⟨gb220, 0, none⟩ = some (.int .i64 (wrap64 (a0_0 + (wrap64 (a2))))) ∧ w'.cell? ⟨gb220, 1, none⟩ = some (.int .i64 a0_1) ∧ w'.cell? ⟨gb220, 2, none⟩ = some (.int .i64 a0_2) ∧ w'.cell? ⟨gb220, 3, none⟩ = some (.int .i64 a0_3)) (ds := []) #[false, false, false, false, false, false, false, false, false, false, false, false, false, false, false] (by kernel_rfl) rfl rfl ⟨bc BK220 0, bc BK220 1, bc BK220 2, bc BK220 3⟩ (fun hHeld => ?_); refine with_tabW prebendlaw02_PlaneMoves.tab8 prebendlaw02_PlaneMoves.bits8 (fun HT_ HW_ => ?_)
      generalize w77.drew = w88 at BK214 BK215 BK220 BK221 BK222 BK223 HB hHeld ⊢
      refine plan_ [(0, 54)] ?_
      refine planT_ (v := ?_) (a' := ?_) rfl rfl (take_ofW HT_.out HW_.out (by kernel_rfl)) (fun _ _ _ h => h) (Or.inl ⟨by rfl, ?_⟩) hHeld ?_ ?_; rotate_left; (rintro w' ⟨s0, s1, s2, s3⟩; go_simp; with_reducible rfl); rotate_left; (simp only [Act.put, List.setIfInBounds_toArray, List.set_cons_zero, List.set_cons_succ, i64_w, i32_w]; rfl)
      refine planEnd_ ?_
      refine one_ (i := 1) (N := some 55) #[true, true, false, false, false, false, false, false, false, false, false, false, false, false, false] rfl rfl (one_of HT_.out (by kernel_rfl)) (by decide) (fun K hK => ?_)
      refine goes_ Try.func9 (by kernel_rfl) rfl #[.agg #[.int .i64 (wrap64 (a0_0 + (wrap64 (a2)))), .int .i64 a0_1, .int .i64 a0_2, .int .i64 a0_3]] (by rfl) rfl rfl mt ?_
      with_reducible refine (plane_Good.calls (wrap64 (a0_0 + (wrap64 (a2)))) a0_1 a0_2 a0_3 false _ A71.out).mono ?_
      rintro e w89 ⟨rfl, hb⟩
      refine ⟨_, rfl, ?_⟩
      replace BK214 := sB hb (mBK BK214.out)
      replace BK215 := sB hb (mBK BK215.out)
      replace BK220 := sB hb (mBK BK220.out)
      replace BK221 := sB hb (mBK BK221.out)
      replace BK222 := sB hb (mBK BK222.out)
      replace BK223 := sB hb (mBK BK223.out)
      replace HB := Aside0.mk (below_step (mBs HB.out) hb)
      (try clear hb); (try clear hb2); (try clear hk); (try clear hi)
      refine hK.out _ _ ⟨bc BK220 0, bc BK220 1, bc BK220 2, bc BK220 3⟩ (fun hHeld => ?_)
      clear hK; clear K
      refine norm_ (a' := ?_) ?_ ?_
      rotate_left
      ·show Act.put _ (some 55) _ = _
       simp only [Act.put, List.setIfInBounds_toArray, List.set_cons_zero, List.set_cons_succ, i64_w, i32_w]
       rfl
      refine plan_ [(2, 56)] ?_
      refine planP_ (v := ?_) (a' := ?_) rfl rfl (any_of HT_.out (by kernel_rfl)) (fun _ _ _ h => h) (Or.inl ⟨by rfl, ?_⟩) ?_ ?_; rotate_left; (intro w'; go_simp; with_reducible rfl); rotate_left; (simp only [Act.put, List.setIfInBounds_toArray, List.set_cons_zero, List.set_cons_succ, i64_w, i32_w]; rfl)
      refine planEnd_ ?_
      refine plan_ [(3, 57), (4, 58)] ?_
      iterate 2 (refine planP_ (v := undef) (a' := ?_) rfl rfl (any_of HT_.out (by kernel_rfl)) (fun _ _ _ h => h) (Or.inr ⟨by rfl, rfl⟩) ?_ ?_; rotate_left; (simp only [Act.put, List.setIfInBounds_toArray, List.set_cons_zero, List.set_cons_succ, i64_w, i32_w]; rfl))
      refine planEnd_ ?_
      refine plan_ [(5, 59), (6, 60)] ?_
      iterate 2 (refine planP_ (v := ?_) (a' := ?_) rfl rfl (any_of HT_.out (by kernel_rfl)) (fun _ _ _ h => h) (Or.inl ⟨by rfl, ?_⟩) ?_ ?_; rotate_left; (intro w'; go_simp; with_reducible rfl); rotate_left; (simp only [Act.put, List.setIfInBounds_toArray, List.set_cons_zero, List.set_cons_succ, i64_w, i32_w]; rfl))
      refine planEnd_ ?_
      refine plan_ [(7, 61), (8, 62), (9, 63), (10, 64), (11, 65), (12, 66), (13, 67)] ?_
      iterate 7 (refine planP_ (v := undef) (a' := ?_) rfl rfl (any_of HT_.out (by kernel_rfl)) (fun _ _ _ h => h) (Or.inr ⟨by rfl, rfl⟩) ?_ ?_; rotate_left; (simp only [Act.put, List.setIfInBounds_toArray, List.set_cons_zero, List.set_cons_succ, i64_w, i32_w]; rfl))
      refine planEnd_ ?_
      refine plan_ [(14, 68)] ?_
      refine planP_ (v := ?_) (a' := ?_) rfl rfl (any_of HT_.out (by kernel_rfl)) (fun _ _ _ h => h) (Or.inl ⟨by rfl, ?_⟩) ?_ ?_; rotate_left; (intro w'; go_simp; with_reducible rfl); rotate_left; (simp only [Act.put, List.setIfInBounds_toArray, List.set_cons_zero, List.set_cons_succ, i64_w, i32_w]; rfl)
      refine planEnd_ ?_
      refine done_ (done_of HT_.out (by kernel_rfl)) ?_
      try go_wp2
      go_meet
      case rel => exact ⟨_, (false), ez, H', ⟨by have := HJ3.out; first | omega | exact Nat.le_refl _⟩, ⟨mBK BK214.out⟩, ⟨mBK BK215.out⟩, ⟨mBK BK220.out⟩, ⟨mBK BK221.out⟩, ⟨mBK BK222.out⟩, ⟨mBK BK223.out⟩, ⟨mBs HB.out⟩⟩
    case rest =>
     clear HC28
     (try clear c1); (try clear p2); (try clear p6); (try clear c7); (try clear c9); (try clear c13); (try clear p64); (try clear c72); (try clear c74)
     obtain ⟨kq, x68_27, rfl, HA, HJ27, BK214, BK215, BK220, BK221, BK222, BK223, HB⟩ := hcut
     cases kq with
     | zero => exact absurd HA.out (by simp [prebendlaw02_PlaneMoves.j1])
     | succ kj27 =>
      have H := HA.out
      clear HA
      simp only [prebendlaw02_PlaneMoves.j1] at H
      by_cases c90 : x68_27 = true
      ·subst c90
       have H1 : (some false) = some r := by rw [if_pos rfl] at H; exact H
       clear H
       have H := H1
       clear H1
       obtain rfl := Option.some.inj H
       go_wp2
       go_ret
       exact ⟨by first | rfl | (simp [errW_none, errW_some] <;> rfl) | (simp [*, errW_none, errW_some] <;> rfl), by repeat (first | (with_reducible first | exact HB.out | apply below_alloc | apply pw_below_drewN | apply below_drew1 | refine below_set ?_ GE214.out | refine below_set ?_ GE215.out | refine below_set ?_ GE220.out | refine below_set ?_ GE221.out | refine below_set ?_ GE222.out | refine below_set ?_ GE223.out) | exact HB.out)⟩
      ·replace c90 := Bool.eq_false_iff.mpr c90
       subst c90
       have H1 : ((prebendlaw02_awake.f kj27).bind fun t228 => (if t228 = true then ((plane_Meets.f a0_0 a0_1 a0_2 a0_3 a0_0 a0_1 a0_2 a0_3).bind fun t229 => (if t229 = true then ((plane_Meets.f a0_0 a0_1 a0_2 a0_3 (wrap64 (a0_0 + a0_2)) a0_1 a0_2 a0_3).bind fun t230 => (if t230 = true then (some false) else ((plane_Meets.f a0_0 a0_1 a0_2 a0_3 a0_0 (wrap64 (a0_1 + a0_3)) a0_2 a0_3).bind fun t231 => (some (!t231))))) else (some false))) else (some false))) = some r := by rw [if_neg (show ¬ (false = true) by decide)] at H; exact H
       clear H
       have H := H1
       clear H1
       replace H := Option.bind_eq_some_iff.mp H
       obtain ⟨t228, A910, H⟩ := H
       replace H : (if t228 = true then ((plane_Meets.f a0_0 a0_1 a0_2 a0_3 a0_0 a0_1 a0_2 a0_3).bind fun t229 => (if t229 = true then ((plane_Meets.f a0_0 a0_1 a0_2 a0_3 (wrap64 (a0_0 + a0_2)) a0_1 a0_2 a0_3).bind fun t230 => (if t230 = true then (some false) else ((plane_Meets.f a0_0 a0_1 a0_2 a0_3 a0_0 (wrap64 (a0_1 + a0_3)) a0_2 a0_3).bind fun t231 => (some (!t231))))) else (some false))) else (some false)) = some r := H
       have A91 := Aside0.mk A910
       clear A910
       by_cases c92 : t228 = true
       ·subst c92
        have H1 : ((plane_Meets.f a0_0 a0_1 a0_2 a0_3 a0_0 a0_1 a0_2 a0_3).bind fun t229 => (if t229 = true then ((plane_Meets.f a0_0 a0_1 a0_2 a0_3 (wrap64 (a0_0 + a0_2)) a0_1 a0_2 a0_3).bind fun t230 => (if t230 = true then (some false) else ((plane_Meets.f a0_0 a0_1 a0_2 a0_3 a0_0 (wrap64 (a0_1 + a0_3)) a0_2 a0_3).bind fun t231 => (some (!t231))))) else (some false))) = some r := by rw [if_pos rfl] at H; exact H
        clear H
        have H := H1
        clear H1
        replace H := Option.bind_eq_some_iff.mp H
        obtain ⟨t229, A930, H⟩ := H
        replace H : (if t229 = true then ((plane_Meets.f a0_0 a0_1 a0_2 a0_3 (wrap64 (a0_0 + a0_2)) a0_1 a0_2 a0_3).bind fun t230 => (if t230 = true then (some false) else ((plane_Meets.f a0_0 a0_1 a0_2 a0_3 a0_0 (wrap64 (a0_1 + a0_3)) a0_2 a0_3).bind fun t231 => (some (!t231))))) else (some false)) = some r := H
        have A93 := Aside0.mk A930
        clear A930
        by_cases c94 : t229 = true
        ·subst c94
         have H1 : ((plane_Meets.f a0_0 a0_1 a0_2 a0_3 (wrap64 (a0_0 + a0_2)) a0_1 a0_2 a0_3).bind fun t230 => (if t230 = true then (some false) else ((plane_Meets.f a0_0 a0_1 a0_2 a0_3 a0_0 (wrap64 (a0_1 + a0_3)) a0_2 a0_3).bind fun t231 => (some (!t231))))) = some r := by rw [if_pos rfl] at H; exact H
         clear H
         have H := H1
         clear H1
         replace H := Option.bind_eq_some_iff.mp H
         obtain ⟨t230, A950, H⟩ := H
         replace H : (if t230 = true then (some false) else ((plane_Meets.f a0_0 a0_1 a0_2 a0_3 a0_0 (wrap64 (a0_1 + a0_3)) a0_2 a0_3).bind fun t231 => (some (!t231)))) = some r := H
         have A95 := Aside0.mk A950
         clear A950
         by_cases c96 : t230 = true
         ·subst c96
          have H1 : (some false) = some r := by rw [if_pos rfl] at H; exact H
          clear H
          have H := H1
          clear H1
          obtain rfl := Option.some.inj H
          go_wp2_with (first | ((with_reducible refine gate_callee (f := 8) rfl ?_); refine goesL_ (some 69) rfl rfl Try.func8 (by kernel_rfl) rfl #[] rfl mt ?_; (with_reducible refine (prebendlaw02_awake.calls kj27  true _ A91.out).mono ?_); rintro e w97 ⟨rfl, hb⟩; refine ⟨_, rfl, ?_⟩; have n0_ := sB hb (mBK BK214.out); have n1_ := sB hb (mBK BK215.out); have n2_ := sB hb (mBK BK220.out); have n3_ := sB hb (mBK BK221.out); have n4_ := sB hb (mBK BK222.out); have n5_ := sB hb (mBK BK223.out); have n6_ := Aside0.mk (below_step (mBs HB.out) hb); clear BK214; clear BK215; clear BK220; clear BK221; clear BK222; clear BK223; clear HB; have BK214 := n0_; have BK215 := n1_; have BK220 := n2_; have BK221 := n3_; have BK222 := n4_; have BK223 := n5_; have HB := n6_; clear n0_ n1_ n2_ n3_ n4_ n5_ n6_; (try clear hb); (try clear hb2); (try clear hk); (try clear hi); have hnb98 := NB214_215.out; have hnc98 := NB215_214.out; have hnb99 := NB214_220.out; have hnc99 := NB220_214.out; have hnb100 := NB214_221.out; have hnc100 := NB221_214.out; have hnb101 := NB214_222.out; have hnc101 := NB222_214.out; have hnb102 := NB214_223.out; have hnc102 := NB223_214.out; have hcz103_0 : w97.cell? ⟨gb214, 0, none⟩ = some (.int .i64 a0_0) := bc BK214 0; have hcz103_1 : w97.cell? ⟨gb214, 1, none⟩ = some (.int .i64 a0_1) := bc BK214 1; have hcz103_2 : w97.cell? ⟨gb214, 2, none⟩ = some (.int .i64 a0_2) := bc BK214 2; have hcz103_3 : w97.cell? ⟨gb214, 3, none⟩ = some (.int .i64 a0_3) := bc BK214 3; have hfz103_0 := blk_frozen BK214.out 0; have hfz103_1 := blk_frozen BK214.out 1; have hfz103_2 := blk_frozen BK214.out 2; have hfz103_3 := blk_frozen BK214.out 3) | (go_at_call 13; (with_reducible refine (plane_Meets.calls a0_0 a0_1 a0_2 a0_3 a0_0 a0_1 a0_2 a0_3 true _ A93.out).mono ?_); rintro e w104 ⟨rfl, hb⟩; have n0_ := sB hb (mBK BK214.out); have n1_ := sB hb (mBK BK215.out); have n2_ := sB hb (mBK BK220.out); have n3_ := sB hb (mBK BK221.out); have n4_ := sB hb (mBK BK222.out); have n5_ := sB hb (mBK BK223.out); have n6_ := Aside0.mk (below_step (mBs HB.out) hb); clear BK214; clear BK215; clear BK220; clear BK221; clear BK222; clear BK223; clear HB; have BK214 := n0_; have BK215 := n1_; have BK220 := n2_; have BK221 := n3_; have BK222 := n4_; have BK223 := n5_; have HB := n6_; clear n0_ n1_ n2_ n3_ n4_ n5_ n6_; (try clear hb); (try clear hb2); (try clear hk); (try clear hi); have hcz105_0 : w104.cell? ⟨gb214, 0, none⟩ = some (.int .i64 a0_0) := bc BK214 0; have hcz105_1 : w104.cell? ⟨gb214, 1, none⟩ = some (.int .i64 a0_1) := bc BK214 1; have hcz105_2 : w104.cell? ⟨gb214, 2, none⟩ = some (.int .i64 a0_2) := bc BK214 2; have hcz105_3 : w104.cell? ⟨gb214, 3, none⟩ = some (.int .i64 a0_3) := bc BK214 3; have hfz105_0 := blk_frozen BK214.out 0; have hfz105_1 := blk_frozen BK214.out 1; have hfz105_2 := blk_frozen BK214.out 2; have hfz105_3 := blk_frozen BK214.out 3; have hnb106 := NB222_215.out; have hnc106 := NB215_222.out; have hnb107 := NB222_220.out; have hnc107 := NB220_222.out; have hnb108 := NB222_221.out; have hnc108 := NB221_222.out; have hnb109 := NB222_223.out; have hnc109 := NB223_222.out; have hcz110_0 : w104.cell? ⟨gb222, 0, none⟩ = some (.int .i64 (wrap64 (a0_0 + a0_2))) := bc BK222 0; have hcz110_1 : w104.cell? ⟨gb222, 1, none⟩ = some (.int .i64 a0_1) := bc BK222 1; have hcz110_2 : w104.cell? ⟨gb222, 2, none⟩ = some (.int .i64 a0_2) := bc BK222 2; have hcz110_3 : w104.cell? ⟨gb222, 3, none⟩ = some (.int .i64 a0_3) := bc BK222 3; have hfz110_0 := blk_frozen BK222.out 0; have hfz110_1 := blk_frozen BK222.out 1; have hfz110_2 := blk_frozen BK222.out 2; have hfz110_3 := blk_frozen BK222.out 3) | (go_at_call 13; (with_reducible refine (plane_Meets.calls a0_0 a0_1 a0_2 a0_3 (wrap64 (a0_0 + a0_2)) a0_1 a0_2 a0_3 true _ A95.out).mono ?_); rintro e w111 ⟨rfl, hb⟩; have n0_ := sB hb (mBK BK214.out); have n1_ := sB hb (mBK BK215.out); have n2_ := sB hb (mBK BK220.out); have n3_ := sB hb (mBK BK221.out); have n4_ := sB hb (mBK BK222.out); have n5_ := sB hb (mBK BK223.out); have n6_ := Aside0.mk (below_step (mBs HB.out) hb); clear BK214; clear BK215; clear BK220; clear BK221; clear BK222; clear BK223; clear HB; have BK214 := n0_; have BK215 := n1_; have BK220 := n2_; have BK221 := n3_; have BK222 := n4_; have BK223 := n5_; have HB := n6_; clear n0_ n1_ n2_ n3_ n4_ n5_ n6_; (try clear hb); (try clear hb2); (try clear hk); (try clear hi)))
          go_ret
          exact ⟨by first | rfl | (simp [errW_none, errW_some] <;> rfl) | (simp [*, errW_none, errW_some] <;> rfl), by repeat (first | (with_reducible first | exact HB.out | apply below_alloc | apply pw_below_drewN | apply below_drew1 | refine below_set ?_ GE214.out | refine below_set ?_ GE215.out | refine below_set ?_ GE220.out | refine below_set ?_ GE221.out | refine below_set ?_ GE222.out | refine below_set ?_ GE223.out) | exact HB.out)⟩
         ·replace c96 := Bool.eq_false_iff.mpr c96
          subst c96
          have H1 : ((plane_Meets.f a0_0 a0_1 a0_2 a0_3 a0_0 (wrap64 (a0_1 + a0_3)) a0_2 a0_3).bind fun t231 => (some (!t231))) = some r := by rw [if_neg (show ¬ (false = true) by decide)] at H; exact H
          clear H
          have H := H1
          clear H1
          replace H := Option.bind_eq_some_iff.mp H
          obtain ⟨t231, A1120, H⟩ := H
          replace H : (some (!t231)) = some r := H
          have A112 := Aside0.mk A1120
          clear A1120
          obtain rfl := Option.some.inj H
          go_wp2_with (first | ((with_reducible refine gate_callee (f := 8) rfl ?_); refine goesL_ (some 69) rfl rfl Try.func8 (by kernel_rfl) rfl #[] rfl mt ?_; (with_reducible refine (prebendlaw02_awake.calls kj27  true _ A91.out).mono ?_); rintro e w113 ⟨rfl, hb⟩; refine ⟨_, rfl, ?_⟩; have n0_ := sB hb (mBK BK214.out); have n1_ := sB hb (mBK BK215.out); have n2_ := sB hb (mBK BK220.out); have n3_ := sB hb (mBK BK221.out); have n4_ := sB hb (mBK BK222.out); have n5_ := sB hb (mBK BK223.out); have n6_ := Aside0.mk (below_step (mBs HB.out) hb); clear BK214; clear BK215; clear BK220; clear BK221; clear BK222; clear BK223; clear HB; have BK214 := n0_; have BK215 := n1_; have BK220 := n2_; have BK221 := n3_; have BK222 := n4_; have BK223 := n5_; have HB := n6_; clear n0_ n1_ n2_ n3_ n4_ n5_ n6_; (try clear hb); (try clear hb2); (try clear hk); (try clear hi); have hnb114 := NB214_215.out; have hnc114 := NB215_214.out; have hnb115 := NB214_220.out; have hnc115 := NB220_214.out; have hnb116 := NB214_221.out; have hnc116 := NB221_214.out; have hnb117 := NB214_222.out; have hnc117 := NB222_214.out; have hnb118 := NB214_223.out; have hnc118 := NB223_214.out; have hcz119_0 : w113.cell? ⟨gb214, 0, none⟩ = some (.int .i64 a0_0) := bc BK214 0; have hcz119_1 : w113.cell? ⟨gb214, 1, none⟩ = some (.int .i64 a0_1) := bc BK214 1; have hcz119_2 : w113.cell? ⟨gb214, 2, none⟩ = some (.int .i64 a0_2) := bc BK214 2; have hcz119_3 : w113.cell? ⟨gb214, 3, none⟩ = some (.int .i64 a0_3) := bc BK214 3; have hfz119_0 := blk_frozen BK214.out 0; have hfz119_1 := blk_frozen BK214.out 1; have hfz119_2 := blk_frozen BK214.out 2; have hfz119_3 := blk_frozen BK214.out 3) | (go_at_call 13; (with_reducible refine (plane_Meets.calls a0_0 a0_1 a0_2 a0_3 a0_0 a0_1 a0_2 a0_3 true _ A93.out).mono ?_); rintro e w120 ⟨rfl, hb⟩; have n0_ := sB hb (mBK BK214.out); have n1_ := sB hb (mBK BK215.out); have n2_ := sB hb (mBK BK220.out); have n3_ := sB hb (mBK BK221.out); have n4_ := sB hb (mBK BK222.out); have n5_ := sB hb (mBK BK223.out); have n6_ := Aside0.mk (below_step (mBs HB.out) hb); clear BK214; clear BK215; clear BK220; clear BK221; clear BK222; clear BK223; clear HB; have BK214 := n0_; have BK215 := n1_; have BK220 := n2_; have BK221 := n3_; have BK222 := n4_; have BK223 := n5_; have HB := n6_; clear n0_ n1_ n2_ n3_ n4_ n5_ n6_; (try clear hb); (try clear hb2); (try clear hk); (try clear hi); have hcz121_0 : w120.cell? ⟨gb214, 0, none⟩ = some (.int .i64 a0_0) := bc BK214 0; have hcz121_1 : w120.cell? ⟨gb214, 1, none⟩ = some (.int .i64 a0_1) := bc BK214 1; have hcz121_2 : w120.cell? ⟨gb214, 2, none⟩ = some (.int .i64 a0_2) := bc BK214 2; have hcz121_3 : w120.cell? ⟨gb214, 3, none⟩ = some (.int .i64 a0_3) := bc BK214 3; have hfz121_0 := blk_frozen BK214.out 0; have hfz121_1 := blk_frozen BK214.out 1; have hfz121_2 := blk_frozen BK214.out 2; have hfz121_3 := blk_frozen BK214.out 3; have hnb122 := NB222_215.out; have hnc122 := NB215_222.out; have hnb123 := NB222_220.out; have hnc123 := NB220_222.out; have hnb124 := NB222_221.out; have hnc124 := NB221_222.out; have hnb125 := NB222_223.out; have hnc125 := NB223_222.out; have hcz126_0 : w120.cell? ⟨gb222, 0, none⟩ = some (.int .i64 (wrap64 (a0_0 + a0_2))) := bc BK222 0; have hcz126_1 : w120.cell? ⟨gb222, 1, none⟩ = some (.int .i64 a0_1) := bc BK222 1; have hcz126_2 : w120.cell? ⟨gb222, 2, none⟩ = some (.int .i64 a0_2) := bc BK222 2; have hcz126_3 : w120.cell? ⟨gb222, 3, none⟩ = some (.int .i64 a0_3) := bc BK222 3; have hfz126_0 := blk_frozen BK222.out 0; have hfz126_1 := blk_frozen BK222.out 1; have hfz126_2 := blk_frozen BK222.out 2; have hfz126_3 := blk_frozen BK222.out 3) | (go_at_call 13; (with_reducible refine (plane_Meets.calls a0_0 a0_1 a0_2 a0_3 (wrap64 (a0_0 + a0_2)) a0_1 a0_2 a0_3 false _ A95.out).mono ?_); rintro e w127 ⟨rfl, hb⟩; have n0_ := sB hb (mBK BK214.out); have n1_ := sB hb (mBK BK215.out); have n2_ := sB hb (mBK BK220.out); have n3_ := sB hb (mBK BK221.out); have n4_ := sB hb (mBK BK222.out); have n5_ := sB hb (mBK BK223.out); have n6_ := Aside0.mk (below_step (mBs HB.out) hb); clear BK214; clear BK215; clear BK220; clear BK221; clear BK222; clear BK223; clear HB; have BK214 := n0_; have BK215 := n1_; have BK220 := n2_; have BK221 := n3_; have BK222 := n4_; have BK223 := n5_; have HB := n6_; clear n0_ n1_ n2_ n3_ n4_ n5_ n6_; (try clear hb); (try clear hb2); (try clear hk); (try clear hi); have hcz128_0 : w127.cell? ⟨gb214, 0, none⟩ = some (.int .i64 a0_0) := bc BK214 0; have hcz128_1 : w127.cell? ⟨gb214, 1, none⟩ = some (.int .i64 a0_1) := bc BK214 1; have hcz128_2 : w127.cell? ⟨gb214, 2, none⟩ = some (.int .i64 a0_2) := bc BK214 2; have hcz128_3 : w127.cell? ⟨gb214, 3, none⟩ = some (.int .i64 a0_3) := bc BK214 3; have hfz128_0 := blk_frozen BK214.out 0; have hfz128_1 := blk_frozen BK214.out 1; have hfz128_2 := blk_frozen BK214.out 2; have hfz128_3 := blk_frozen BK214.out 3; have hnb129 := NB223_215.out; have hnc129 := NB215_223.out; have hnb130 := NB223_220.out; have hnc130 := NB220_223.out; have hnb131 := NB223_221.out; have hnc131 := NB221_223.out; have hcz132_0 : w127.cell? ⟨gb223, 0, none⟩ = some (.int .i64 a0_0) := bc BK223 0; have hcz132_1 : w127.cell? ⟨gb223, 1, none⟩ = some (.int .i64 (wrap64 (a0_1 + a0_3))) := bc BK223 1; have hcz132_2 : w127.cell? ⟨gb223, 2, none⟩ = some (.int .i64 a0_2) := bc BK223 2; have hcz132_3 : w127.cell? ⟨gb223, 3, none⟩ = some (.int .i64 a0_3) := bc BK223 3; have hfz132_0 := blk_frozen BK223.out 0; have hfz132_1 := blk_frozen BK223.out 1; have hfz132_2 := blk_frozen BK223.out 2; have hfz132_3 := blk_frozen BK223.out 3) | (go_at_call 13; (with_reducible refine (plane_Meets.calls a0_0 a0_1 a0_2 a0_3 a0_0 (wrap64 (a0_1 + a0_3)) a0_2 a0_3 t231 _ A112.out).mono ?_); rintro e w133 ⟨rfl, hb⟩; have n0_ := sB hb (mBK BK214.out); have n1_ := sB hb (mBK BK215.out); have n2_ := sB hb (mBK BK220.out); have n3_ := sB hb (mBK BK221.out); have n4_ := sB hb (mBK BK222.out); have n5_ := sB hb (mBK BK223.out); have n6_ := Aside0.mk (below_step (mBs HB.out) hb); clear BK214; clear BK215; clear BK220; clear BK221; clear BK222; clear BK223; clear HB; have BK214 := n0_; have BK215 := n1_; have BK220 := n2_; have BK221 := n3_; have BK222 := n4_; have BK223 := n5_; have HB := n6_; clear n0_ n1_ n2_ n3_ n4_ n5_ n6_; (try clear hb); (try clear hb2); (try clear hk); (try clear hi)))
          go_ret
          exact ⟨by first | rfl | (simp [errW_none, errW_some] <;> rfl) | (simp [*, errW_none, errW_some] <;> rfl), by repeat (first | (with_reducible first | exact HB.out | apply below_alloc | apply pw_below_drewN | apply below_drew1 | refine below_set ?_ GE214.out | refine below_set ?_ GE215.out | refine below_set ?_ GE220.out | refine below_set ?_ GE221.out | refine below_set ?_ GE222.out | refine below_set ?_ GE223.out) | exact HB.out)⟩
        ·replace c94 := Bool.eq_false_iff.mpr c94
         subst c94
         have H1 : (some false) = some r := by rw [if_neg (show ¬ (false = true) by decide)] at H; exact H
         clear H
         have H := H1
         clear H1
         obtain rfl := Option.some.inj H
         go_wp2_with (first | ((with_reducible refine gate_callee (f := 8) rfl ?_); refine goesL_ (some 69) rfl rfl Try.func8 (by kernel_rfl) rfl #[] rfl mt ?_; (with_reducible refine (prebendlaw02_awake.calls kj27  true _ A91.out).mono ?_); rintro e w134 ⟨rfl, hb⟩; refine ⟨_, rfl, ?_⟩; have n0_ := sB hb (mBK BK214.out); have n1_ := sB hb (mBK BK215.out); have n2_ := sB hb (mBK BK220.out); have n3_ := sB hb (mBK BK221.out); have n4_ := sB hb (mBK BK222.out); have n5_ := sB hb (mBK BK223.out); have n6_ := Aside0.mk (below_step (mBs HB.out) hb); clear BK214; clear BK215; clear BK220; clear BK221; clear BK222; clear BK223; clear HB; have BK214 := n0_; have BK215 := n1_; have BK220 := n2_; have BK221 := n3_; have BK222 := n4_; have BK223 := n5_; have HB := n6_; clear n0_ n1_ n2_ n3_ n4_ n5_ n6_; (try clear hb); (try clear hb2); (try clear hk); (try clear hi); have hnb135 := NB214_215.out; have hnc135 := NB215_214.out; have hnb136 := NB214_220.out; have hnc136 := NB220_214.out; have hnb137 := NB214_221.out; have hnc137 := NB221_214.out; have hnb138 := NB214_222.out; have hnc138 := NB222_214.out; have hnb139 := NB214_223.out; have hnc139 := NB223_214.out; have hcz140_0 : w134.cell? ⟨gb214, 0, none⟩ = some (.int .i64 a0_0) := bc BK214 0; have hcz140_1 : w134.cell? ⟨gb214, 1, none⟩ = some (.int .i64 a0_1) := bc BK214 1; have hcz140_2 : w134.cell? ⟨gb214, 2, none⟩ = some (.int .i64 a0_2) := bc BK214 2; have hcz140_3 : w134.cell? ⟨gb214, 3, none⟩ = some (.int .i64 a0_3) := bc BK214 3; have hfz140_0 := blk_frozen BK214.out 0; have hfz140_1 := blk_frozen BK214.out 1; have hfz140_2 := blk_frozen BK214.out 2; have hfz140_3 := blk_frozen BK214.out 3) | (go_at_call 13; (with_reducible refine (plane_Meets.calls a0_0 a0_1 a0_2 a0_3 a0_0 a0_1 a0_2 a0_3 false _ A93.out).mono ?_); rintro e w141 ⟨rfl, hb⟩; have n0_ := sB hb (mBK BK214.out); have n1_ := sB hb (mBK BK215.out); have n2_ := sB hb (mBK BK220.out); have n3_ := sB hb (mBK BK221.out); have n4_ := sB hb (mBK BK222.out); have n5_ := sB hb (mBK BK223.out); have n6_ := Aside0.mk (below_step (mBs HB.out) hb); clear BK214; clear BK215; clear BK220; clear BK221; clear BK222; clear BK223; clear HB; have BK214 := n0_; have BK215 := n1_; have BK220 := n2_; have BK221 := n3_; have BK222 := n4_; have BK223 := n5_; have HB := n6_; clear n0_ n1_ n2_ n3_ n4_ n5_ n6_; (try clear hb); (try clear hb2); (try clear hk); (try clear hi)))
         go_ret
         exact ⟨by first | rfl | (simp [errW_none, errW_some] <;> rfl) | (simp [*, errW_none, errW_some] <;> rfl), by repeat (first | (with_reducible first | exact HB.out | apply below_alloc | apply pw_below_drewN | apply below_drew1 | refine below_set ?_ GE214.out | refine below_set ?_ GE215.out | refine below_set ?_ GE220.out | refine below_set ?_ GE221.out | refine below_set ?_ GE222.out | refine below_set ?_ GE223.out) | exact HB.out)⟩
       ·replace c92 := Bool.eq_false_iff.mpr c92
        subst c92
        have H1 : (some false) = some r := by rw [if_neg (show ¬ (false = true) by decide)] at H; exact H
        clear H
        have H := H1
        clear H1
        obtain rfl := Option.some.inj H
        go_wp2_with (first | ((with_reducible refine gate_callee (f := 8) rfl ?_); refine goesL_ (some 69) rfl rfl Try.func8 (by kernel_rfl) rfl #[] rfl mt ?_; (with_reducible refine (prebendlaw02_awake.calls kj27  false _ A91.out).mono ?_); rintro e w142 ⟨rfl, hb⟩; refine ⟨_, rfl, ?_⟩; have n0_ := sB hb (mBK BK214.out); have n1_ := sB hb (mBK BK215.out); have n2_ := sB hb (mBK BK220.out); have n3_ := sB hb (mBK BK221.out); have n4_ := sB hb (mBK BK222.out); have n5_ := sB hb (mBK BK223.out); have n6_ := Aside0.mk (below_step (mBs HB.out) hb); clear BK214; clear BK215; clear BK220; clear BK221; clear BK222; clear BK223; clear HB; have BK214 := n0_; have BK215 := n1_; have BK220 := n2_; have BK221 := n3_; have BK222 := n4_; have BK223 := n5_; have HB := n6_; clear n0_ n1_ n2_ n3_ n4_ n5_ n6_; (try clear hb); (try clear hb2); (try clear hk); (try clear hi)))
        go_ret
        exact ⟨by first | rfl | (simp [errW_none, errW_some] <;> rfl) | (simp [*, errW_none, errW_some] <;> rfl), by repeat (first | (with_reducible first | exact HB.out | apply below_alloc | apply pw_below_drewN | apply below_drew1 | refine below_set ?_ GE214.out | refine below_set ?_ GE215.out | refine below_set ?_ GE220.out | refine below_set ?_ GE221.out | refine below_set ?_ GE222.out | refine below_set ?_ GE223.out) | exact HB.out)⟩

/-- THE ONE PURE STATEMENT of prebendlaw02_PlaneMoves. -/
def prebendlaw02_PlaneMoves.Pure : Prop := ∀ (a0_0 : Int) (a0_1 : Int) (a0_2 : Int) (a0_3 : Int) (a1_0 : Int) (a1_1 : Int) (a1_2 : Int) (a1_3 : Int) (a2 : Int), (Lit.int .i64 a0_0).wf = true → (Lit.int .i64 a0_1).wf = true → (Lit.int .i64 a0_2).wf = true → (Lit.int .i64 a0_3).wf = true → (Lit.int .i64 a1_0).wf = true → (Lit.int .i64 a1_1).wf = true → (Lit.int .i64 a1_2).wf = true → (Lit.int .i64 a1_3).wf = true → (Lit.int .u16 a2).wf = true → ∃ k, prebendlaw02_PlaneMoves.f k a0_0 a0_1 a0_2 a0_3 a1_0 a1_1 a1_2 a1_3 a2 = some true
theorem prebendlaw02_PlaneMoves.walk (P : prebendlaw02_PlaneMoves.Pure) (a0_0 : Int) (a0_1 : Int) (a0_2 : Int) (a0_3 : Int) (a1_0 : Int) (a1_1 : Int) (a1_2 : Int) (a1_3 : Int) (a2 : Int) (w : World) (h0_0_ : (Lit.int .i64 a0_0).wf = true) (h0_1_ : (Lit.int .i64 a0_1).wf = true) (h0_2_ : (Lit.int .i64 a0_2).wf = true) (h0_3_ : (Lit.int .i64 a0_3).wf = true) (h1_0_ : (Lit.int .i64 a1_0).wf = true) (h1_1_ : (Lit.int .i64 a1_1).wf = true) (h1_2_ : (Lit.int .i64 a1_2).wf = true) (h1_3_ : (Lit.int .i64 a1_3).wf = true) (h2_ : (Lit.int .u16 a2).wf = true) :
  Calls Try.prog 7 #[.agg #[.int .i64 a0_0, .int .i64 a0_1, .int .i64 a0_2, .int .i64 a0_3], .agg #[.int .i64 a1_0, .int .i64 a1_1, .int .i64 a1_2, .int .i64 a1_3], .int .u16 a2] w fun e w' => e = .returned (.bool true) ∧ Below w.heap.size w w' := by
 obtain ⟨k, h⟩ := P a0_0 a0_1 a0_2 a0_3 a1_0 a1_1 a1_2 a1_3 a2 h0_0_ h0_1_ h0_2_ h0_3_ h1_0_ h1_1_ h1_2_ h1_3_ h2_
 refine (prebendlaw02_PlaneMoves.calls k a0_0 a0_1 a0_2 a0_3 a1_0 a1_1 a1_2 a1_3 a2 true w  h).mono ?_
 rintro e w' ⟨rfl, hd⟩
 exact ⟨rfl, hd⟩

end Go.Proofs.Ytcocaapihhgckaa.PAll
