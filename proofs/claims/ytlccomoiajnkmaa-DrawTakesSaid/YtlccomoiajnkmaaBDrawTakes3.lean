/- Words, plain functions and contracts of the functions that the law of this claim reaches; no conditions. -/
import Derived.Test.YtlccomoiajnkmaaBDrawTakes2
section
namespace Go.Proofs.Ytlccomoiajnkmaa.PAll
open Go.RowKit Go.Proofs.YtlccomoiajnkmaaW.PrintWords Go.Proofs.YtlccomoiajnkmaaW.PrintLast Go.Proofs.YtlccomoiajnkmaaW.PrintMore
attribute [local go_sem] max2_int min2_int max_two min_two max_three min_three max_four min_four   -- for this text's walks alone
set_option linter.unusedVariables false
set_option linter.unusedSimpArgs false

/-! ### A run of steps in a region that draws, told by its plan (operation, slot): each step takes the plan's first -/
def Plan (is : List (Nat × Nat)) (p : Prop) : Prop := p
theorem plan_ (is : List (Nat × Nat)) {p : Prop} (h : Plan is p) : p := h
theorem planEnd_ {p : Prop} (h : p) : Plan [] p := h
section
variable {P : Program} {ops : Array Oper} {Q : Exit → Act → World → Prop} {md : Region.Mode} {S : World → Prop} {ds : List Nat} {i N : Nat} {is : List (Nat × Nat)} {oi : Oper} {v : Value} {fuel : Nat} {l : Array Bool} {a : Act} {w : World}
theorem planP_ (hi : ops[i]? = some oi) (hN : oi.dst = some N) (hc : anyB md ops l (l.setIfInBounds i true) i = true) (hQ : ∀ c a w, Q (.panic c) (a.put oi.dst v) w → Q (.panic c) a w) (hy : Yields P ops oi v a) {a' : Act} (ha : a.put (some N) v = a')
    (h : Plan is (wpAnyLast P md ops Q S ds fuel (l.setIfInBounds i true) a' w)) : Plan ((i, N) :: is) (wpAnyLast P md ops Q S ds (fuel + 1) l a w) := pure_ _ hi hN hc hQ hy ha h
theorem planT_ (hi : ops[i]? = some oi) (hN : oi.dst = some N) (hc : takeB md ops ds l (l.setIfInBounds i true) i = true) (hQ : ∀ c a w, Q (.panic c) (a.put oi.dst v) w → Q (.panic c) a w) (hy : YieldsIf P ops S oi v a) (hS : S w) {a' : Act} (ha : a.put (some N) v = a')
    (h : Plan is (wpAnyLast P md ops Q S ds fuel (l.setIfInBounds i true) a' w)) : Plan ((i, N) :: is) (wpAnyLast P md ops Q S ds (fuel + 1) l a w) := take_ _ hi hN hc hQ hy hS ha h
end
/-! ### What the walks say over and over -/
theorem mB {p q : Prop} (h : p) (f : p → q := by intro h; repeat (first | (with_reducible first | exact h | apply below_alloc | apply pw_below_drewN | apply below_drew1) | exact h)) : q := f h
theorem mK {p q : Prop} (h : p) (f : p → q := by intro h; repeat (first | (with_reducible first | exact h | apply Kept.alloc | apply Kept.drewN | apply Kept.drew) | exact h)) : q := f h
theorem mR {p q : Prop} (h : p) (f : p → q := by intro h; (with_reducible repeat (first | apply Kd.R_alloc | apply Kd.R_drewN | apply Kd.R_drew)); exact h) : q := f h
theorem mV {p q : Prop} (h : p) (f : p → q := by intro h; (with_reducible repeat (first | apply Kd.V_alloc | apply Kd.V_drewN | apply Kd.V_drew)); exact h) : q := f h
theorem oda {p : Prop} [Decidable p] (h : decide p = true := by first | (with_reducible assumption) | assumption) : p := of_decide_eq_true h
theorem ez {p : Prop} (h : p := by first | rfl | (simp; done) | (simp [*]; done)) : p := h
theorem mBs {p q : Prop} (h : p) (f : p → q := by intro h; repeat (first | (with_reducible first | exact h | apply below_alloc | apply pw_below_drewN | apply below_drew1 | refine below_set ?_ (Aside0.out (by assumption))) | exact h)) : q := f h
theorem mBK {p q : Prop} (h : p) (f : p → q := by intro h; (with_reducible repeat (first | refine blk_drewN ?_ _ | refine blk_drew ?_ | refine blk_alloc ?_ _)); exact h) : q := f h
theorem mC {p q : Prop} (h : p) (f : p → q := by intro h; repeat (first | exact h | (with_reducible refine Kd.C_alloc ?_ _) | (with_reducible refine Kd.C_drewN ?_ _) | (with_reducible refine Kd.C_drew ?_))) : q := f h
theorem mt {p : Prop} (h : p := by (try simp only [List.map_toArray, List.map_cons, List.map_nil]); first | done | rfl | (simp only [List.length_drop, List.length_take]; rfl)) : p := h
theorem mH {r p q : Prop} (hy : r) (H : p) (f : r → p → q := by intro hy H; first | (rw [hy]; with_reducible exact H) | (have H2_ := (Option.bind_some _ _).symm.trans H; rw [hy]; with_reducible exact H2_) | (have H2_ := (Option.bind_some _ _).symm.trans H; with_reducible exact H2_) | with_reducible exact H | (rw [hy]; exact H) | exact H) : q := f hy H
/-! ### prebendlaw11_DrawTakes: function 5 -/
mutual
def prebendlaw11_DrawTakes.l0 : Nat → Int → List (S46) → List (S37) → List Int → Int → Int → Int → Option (Bool)
 | 0, _, _, _, _, _, _, _ => none
 | k + 1, x4, x12, x13, x15, x16, x17, x18 => if x18 < (x13.length : Int) then (if 0 ≤ x18 then (if ((rd_T37 x13 x18).f0) < 0 then (prebendlaw11_DrawTakes.j1 k x4 x12 x13 x15 x16 x17 x18 ((rd_T37 x13 x18).f0) true) else (prebendlaw11_DrawTakes.j1 k x4 x12 x13 x15 x16 x17 x18 ((rd_T37 x13 x18).f0) (decide (((rd_T37 x13 x18).f0) ≥ (x12.length : Int))))) else (none)) else ((prebendlaw11_awake.f k).bind fun t352 => (if t352 = true then (some (x16 == 0)) else (some false)))
def prebendlaw11_DrawTakes.j1 : Nat → Int → List (S46) → List (S37) → List Int → Int → Int → Int → Int → Bool → Option (Bool)
 | 0, _, _, _, _, _, _, _, _, _ => none
 | k + 1, x4, x12, x13, x15, x16, x17, x18, x19, x67 => if x67 = true then (some false) else (if 0 ≤ x19 then (if x19 < (x12.length : Int) then (if 0 ≤ x18 then (if x18 < (x13.length : Int) then (if ((rd_T37 x13 x18).f1) < 1 then (prebendlaw11_DrawTakes.j2 k x4 x12 x13 x15 x16 x17 x18 x19 true ((rd_T46 x12 x19).f0) ((rd_T46 x12 x19).f1) ((rd_T46 x12 x19).f2) ((rd_T46 x12 x19).f3) ((rd_T46 x12 x19).f4) ((rd_T46 x12 x19).f5)) else (if ((rd_T37 x13 x18).f1) > ((rd_T46 x12 x19).f3) then (prebendlaw11_DrawTakes.j2 k x4 x12 x13 x15 x16 x17 x18 x19 true ((rd_T46 x12 x19).f0) ((rd_T46 x12 x19).f1) ((rd_T46 x12 x19).f2) ((rd_T46 x12 x19).f3) ((rd_T46 x12 x19).f4) ((rd_T46 x12 x19).f5)) else (if ((rd_T46 x12 x19).f1) > x4 then (prebendlaw11_DrawTakes.j2 k x4 x12 x13 x15 x16 x17 x18 x19 true ((rd_T46 x12 x19).f0) ((rd_T46 x12 x19).f1) ((rd_T46 x12 x19).f2) ((rd_T46 x12 x19).f3) ((rd_T46 x12 x19).f4) ((rd_T46 x12 x19).f5)) else (if ((rd_T46 x12 x19).f2) ≤ x4 then (prebendlaw11_DrawTakes.j2 k x4 x12 x13 x15 x16 x17 x18 x19 true ((rd_T46 x12 x19).f0) ((rd_T46 x12 x19).f1) ((rd_T46 x12 x19).f2) ((rd_T46 x12 x19).f3) ((rd_T46 x12 x19).f4) ((rd_T46 x12 x19).f5)) else (if (wrap64 (x18 + 1)) < (x13.length : Int) then (prebendlaw11_DrawTakes.j2 k x4 x12 x13 x15 x16 x17 x18 x19 (((rd_T37 x13 x18).f1) != ((rd_T46 x12 x19).f3)) ((rd_T46 x12 x19).f0) ((rd_T46 x12 x19).f1) ((rd_T46 x12 x19).f2) ((rd_T46 x12 x19).f3) ((rd_T46 x12 x19).f4) ((rd_T46 x12 x19).f5)) else (prebendlaw11_DrawTakes.j2 k x4 x12 x13 x15 x16 x17 x18 x19 false ((rd_T46 x12 x19).f0) ((rd_T46 x12 x19).f1) ((rd_T46 x12 x19).f2) ((rd_T46 x12 x19).f3) ((rd_T46 x12 x19).f4) ((rd_T46 x12 x19).f5))))))) else (none)) else (none)) else (none)) else (none))
def prebendlaw11_DrawTakes.j2 : Nat → Int → List (S46) → List (S37) → List Int → Int → Int → Int → Int → Bool → Int → Int → Int → Int → Int → Int → Option (Bool)
 | 0, _, _, _, _, _, _, _, _, _, _, _, _, _, _, _ => none
 | k + 1, x4, x12, x13, x15, x16, x17, x18, x19, x116, x356000, x356001, x356002, x356003, x356004, x356005 => if x116 = true then (some false) else (prebendlaw11_DrawTakes.l1 k x4 x12 x13 x15 x16 x17 x18 x19 x356000 x356001 x356002 x356003 x356004 x356005)
def prebendlaw11_DrawTakes.j4 : Nat → Int → List (S46) → List (S37) → List Int → Int → Int → Int → Int → Int → Int → Int → Int → Int → Int → Option (Bool)
 | 0, _, _, _, _, _, _, _, _, _, _, _, _, _, _ => none
 | k + 1, x4, x12, x13, x15, x16, x17, x18, x19, x356000, x356001, x356002, x356003, x356004, x356005 => if x17 = (x15.length : Int) then (some false) else (if x18 > 0 then (if 0 ≤ (wrap64 (x18 - 1)) then (if (wrap64 (x18 - 1)) < (x13.length : Int) then (if 0 ≤ ((rd_T37 x13 (wrap64 (x18 - 1))).f0) then (if ((rd_T37 x13 (wrap64 (x18 - 1))).f0) < (x12.length : Int) then (if ((rd_T46 x12 ((rd_T37 x13 (wrap64 (x18 - 1))).f0)).f0) = x356000 then (if ((rd_T46 x12 ((rd_T37 x13 (wrap64 (x18 - 1))).f0)).f2) > x356002 then (some false) else (if ((rd_T46 x12 ((rd_T37 x13 (wrap64 (x18 - 1))).f0)).f2) = x356002 then (if ((rd_T37 x13 (wrap64 (x18 - 1))).f0) ≥ x19 then (some false) else (if 0 ≤ x18 then (if x18 < (x13.length : Int) then (prebendlaw11_DrawTakes.l0 k x4 x12 x13 x15 (wrap64 (x16 - ((rd_T37 x13 x18).f1))) x17 (wrap64 (x18 + 1))) else (none)) else (none))) else (if 0 ≤ x18 then (if x18 < (x13.length : Int) then (prebendlaw11_DrawTakes.l0 k x4 x12 x13 x15 (wrap64 (x16 - ((rd_T37 x13 x18).f1))) x17 (wrap64 (x18 + 1))) else (none)) else (none)))) else (if 0 ≤ x18 then (if x18 < (x13.length : Int) then (prebendlaw11_DrawTakes.l0 k x4 x12 x13 x15 (wrap64 (x16 - ((rd_T37 x13 x18).f1))) x17 (wrap64 (x18 + 1))) else (none)) else (none))) else (none)) else (none)) else (none)) else (none)) else (if 0 ≤ x18 then (if x18 < (x13.length : Int) then (prebendlaw11_DrawTakes.l0 k x4 x12 x13 x15 (wrap64 (x16 - ((rd_T37 x13 x18).f1))) x17 (wrap64 (x18 + 1))) else (none)) else (none)))
def prebendlaw11_DrawTakes.l1 : Nat → Int → List (S46) → List (S37) → List Int → Int → Int → Int → Int → Int → Int → Int → Int → Int → Int → Option (Bool)
 | 0, _, _, _, _, _, _, _, _, _, _, _, _, _, _ => none
 | k + 1, x4, x12, x13, x15, x16, x17, x18, x19, x356000, x356001, x356002, x356003, x356004, x356005 => if x17 < (x15.length : Int) then (if 0 ≤ x17 then (if (rd x15 x17) = x356000 then (prebendlaw11_DrawTakes.j4 k x4 x12 x13 x15 x16 x17 x18 x19 x356000 x356001 x356002 x356003 x356004 x356005) else (prebendlaw11_DrawTakes.l1 k x4 x12 x13 x15 x16 (wrap64 (x17 + 1)) x18 x19 x356000 x356001 x356002 x356003 x356004 x356005)) else (none)) else (prebendlaw11_DrawTakes.j4 k x4 x12 x13 x15 x16 x17 x18 x19 x356000 x356001 x356002 x356003 x356004 x356005)
end
def prebendlaw11_DrawTakes.f (k : Nat) (l0 : List (S62)) (l1 : List (S46)) (a2 : Int) (a3 : Int) (a4 : Int) : Option (Bool) := (prebendlaw11_few.f l0 l1).bind fun bt338 => ((draw_Draws.f k bt338.1 bt338.2 a2 a3 a4).bind fun bt344 => (if bt344.2 = 0 then ((tree_Path.f k bt338.1 a2).bind fun t349 => (prebendlaw11_DrawTakes.l0 k a4 bt338.2 bt344.1 t349 a3 0 0)) else ((prebendlaw11_awake.f k).bind fun t348 => (if t348 = true then (some ((bt344.1.length : Int) == 0)) else (some false)))))
theorem prebendlaw11_DrawTakes.mono_l : ∀ k, (∀ y0 y1 y2 y3 y4 y5 y6, LeO (prebendlaw11_DrawTakes.l0 k y0 y1 y2 y3 y4 y5 y6) (prebendlaw11_DrawTakes.l0 (k + 1) y0 y1 y2 y3 y4 y5 y6)) ∧ (∀ y0 y1 y2 y3 y4 y5 y6 y7 y8, LeO (prebendlaw11_DrawTakes.j1 k y0 y1 y2 y3 y4 y5 y6 y7 y8) (prebendlaw11_DrawTakes.j1 (k + 1) y0 y1 y2 y3 y4 y5 y6 y7 y8)) ∧ (∀ y0 y1 y2 y3 y4 y5 y6 y7 y8 y9 y10 y11 y12 y13 y14, LeO (prebendlaw11_DrawTakes.j2 k y0 y1 y2 y3 y4 y5 y6 y7 y8 y9 y10 y11 y12 y13 y14) (prebendlaw11_DrawTakes.j2 (k + 1) y0 y1 y2 y3 y4 y5 y6 y7 y8 y9 y10 y11 y12 y13 y14)) ∧ (∀ y0 y1 y2 y3 y4 y5 y6 y7 y8 y9 y10 y11 y12 y13, LeO (prebendlaw11_DrawTakes.j4 k y0 y1 y2 y3 y4 y5 y6 y7 y8 y9 y10 y11 y12 y13) (prebendlaw11_DrawTakes.j4 (k + 1) y0 y1 y2 y3 y4 y5 y6 y7 y8 y9 y10 y11 y12 y13)) ∧ (∀ y0 y1 y2 y3 y4 y5 y6 y7 y8 y9 y10 y11 y12 y13, LeO (prebendlaw11_DrawTakes.l1 k y0 y1 y2 y3 y4 y5 y6 y7 y8 y9 y10 y11 y12 y13) (prebendlaw11_DrawTakes.l1 (k + 1) y0 y1 y2 y3 y4 y5 y6 y7 y8 y9 y10 y11 y12 y13))
 | 0 => ⟨fun _ _ _ _ _ _ _ r h => by simp [prebendlaw11_DrawTakes.l0] at h, fun _ _ _ _ _ _ _ _ _ r h => by simp [prebendlaw11_DrawTakes.j1] at h, fun _ _ _ _ _ _ _ _ _ _ _ _ _ _ _ r h => by simp [prebendlaw11_DrawTakes.j2] at h, fun _ _ _ _ _ _ _ _ _ _ _ _ _ _ r h => by simp [prebendlaw11_DrawTakes.j4] at h, fun _ _ _ _ _ _ _ _ _ _ _ _ _ _ r h => by simp [prebendlaw11_DrawTakes.l1] at h⟩
 | k + 1 => by
  obtain ⟨ih0, ih1, ih2, ih3, ih4⟩ := prebendlaw11_DrawTakes.mono_l k
  refine ⟨?_, ?_, ?_, ?_, ?_⟩
  ·intro y0 y1 y2 y3 y4 y5 y6
   unfold prebendlaw11_DrawTakes.l0
   repeat' first
   | (with_reducible exact ih0 _ _ _ _ _ _ _)
   | (with_reducible exact ih1 _ _ _ _ _ _ _ _ _)
   | (with_reducible exact ih2 _ _ _ _ _ _ _ _ _ _ _ _ _ _ _)
   | (with_reducible exact ih3 _ _ _ _ _ _ _ _ _ _ _ _ _ _)
   | (with_reducible exact ih4 _ _ _ _ _ _ _ _ _ _ _ _ _ _)
   | (with_reducible exact draw_Draws.mono _ _ _ _ _ _)
   | (with_reducible exact prebendlaw11_awake.mono _)
   | (with_reducible exact tree_Path.mono _ _ _)
   | (with_reducible exact LeO.refl _)
   | (with_reducible exact LeO.none _)
   | (with_reducible refine LeO.ite ?_ ?_)
   | (with_reducible refine LeO.bind ?_ (fun _ => ?_))
   | exact ih0 _ _ _ _ _ _ _
   | exact ih1 _ _ _ _ _ _ _ _ _
   | exact ih2 _ _ _ _ _ _ _ _ _ _ _ _ _ _ _
   | exact ih3 _ _ _ _ _ _ _ _ _ _ _ _ _ _
   | exact ih4 _ _ _ _ _ _ _ _ _ _ _ _ _ _
   | exact draw_Draws.mono _ _ _ _ _ _
   | exact prebendlaw11_awake.mono _
   | exact tree_Path.mono _ _ _
   | exact LeO.none _
   | refine LeO.ite ?_ ?_
   | refine LeO.bind ?_ (fun _ => ?_)
  ·intro y0 y1 y2 y3 y4 y5 y6 y7 y8
   unfold prebendlaw11_DrawTakes.j1
   repeat' first
   | (with_reducible exact ih0 _ _ _ _ _ _ _)
   | (with_reducible exact ih1 _ _ _ _ _ _ _ _ _)
   | (with_reducible exact ih2 _ _ _ _ _ _ _ _ _ _ _ _ _ _ _)
   | (with_reducible exact ih3 _ _ _ _ _ _ _ _ _ _ _ _ _ _)
   | (with_reducible exact ih4 _ _ _ _ _ _ _ _ _ _ _ _ _ _)
   | (with_reducible exact draw_Draws.mono _ _ _ _ _ _)
   | (with_reducible exact prebendlaw11_awake.mono _)
   | (with_reducible exact tree_Path.mono _ _ _)
   | (with_reducible exact LeO.refl _)
   | (with_reducible exact LeO.none _)
   | (with_reducible refine LeO.ite ?_ ?_)
   | (with_reducible refine LeO.bind ?_ (fun _ => ?_))
   | exact ih0 _ _ _ _ _ _ _
   | exact ih1 _ _ _ _ _ _ _ _ _
   | exact ih2 _ _ _ _ _ _ _ _ _ _ _ _ _ _ _
   | exact ih3 _ _ _ _ _ _ _ _ _ _ _ _ _ _
   | exact ih4 _ _ _ _ _ _ _ _ _ _ _ _ _ _
   | exact draw_Draws.mono _ _ _ _ _ _
   | exact prebendlaw11_awake.mono _
   | exact tree_Path.mono _ _ _
   | exact LeO.none _
   | refine LeO.ite ?_ ?_
   | refine LeO.bind ?_ (fun _ => ?_)
  ·intro y0 y1 y2 y3 y4 y5 y6 y7 y8 y9 y10 y11 y12 y13 y14
   unfold prebendlaw11_DrawTakes.j2
   repeat' first
   | (with_reducible exact ih0 _ _ _ _ _ _ _)
   | (with_reducible exact ih1 _ _ _ _ _ _ _ _ _)
   | (with_reducible exact ih2 _ _ _ _ _ _ _ _ _ _ _ _ _ _ _)
   | (with_reducible exact ih3 _ _ _ _ _ _ _ _ _ _ _ _ _ _)
   | (with_reducible exact ih4 _ _ _ _ _ _ _ _ _ _ _ _ _ _)
   | (with_reducible exact draw_Draws.mono _ _ _ _ _ _)
   | (with_reducible exact prebendlaw11_awake.mono _)
   | (with_reducible exact tree_Path.mono _ _ _)
   | (with_reducible exact LeO.refl _)
   | (with_reducible exact LeO.none _)
   | (with_reducible refine LeO.ite ?_ ?_)
   | (with_reducible refine LeO.bind ?_ (fun _ => ?_))
   | exact ih0 _ _ _ _ _ _ _
   | exact ih1 _ _ _ _ _ _ _ _ _
   | exact ih2 _ _ _ _ _ _ _ _ _ _ _ _ _ _ _
   | exact ih3 _ _ _ _ _ _ _ _ _ _ _ _ _ _
   | exact ih4 _ _ _ _ _ _ _ _ _ _ _ _ _ _
   | exact draw_Draws.mono _ _ _ _ _ _
   | exact prebendlaw11_awake.mono _
   | exact tree_Path.mono _ _ _
   | exact LeO.none _
   | refine LeO.ite ?_ ?_
   | refine LeO.bind ?_ (fun _ => ?_)
  ·intro y0 y1 y2 y3 y4 y5 y6 y7 y8 y9 y10 y11 y12 y13
   unfold prebendlaw11_DrawTakes.j4
   repeat' first
   | (with_reducible exact ih0 _ _ _ _ _ _ _)
   | (with_reducible exact ih1 _ _ _ _ _ _ _ _ _)
   | (with_reducible exact ih2 _ _ _ _ _ _ _ _ _ _ _ _ _ _ _)
   | (with_reducible exact ih3 _ _ _ _ _ _ _ _ _ _ _ _ _ _)
   | (with_reducible exact ih4 _ _ _ _ _ _ _ _ _ _ _ _ _ _)
   | (with_reducible exact draw_Draws.mono _ _ _ _ _ _)
   | (with_reducible exact prebendlaw11_awake.mono _)
   | (with_reducible exact tree_Path.mono _ _ _)
   | (with_reducible exact LeO.refl _)
   | (with_reducible exact LeO.none _)
   | (with_reducible refine LeO.ite ?_ ?_)
   | (with_reducible refine LeO.bind ?_ (fun _ => ?_))
   | exact ih0 _ _ _ _ _ _ _
   | exact ih1 _ _ _ _ _ _ _ _ _
   | exact ih2 _ _ _ _ _ _ _ _ _ _ _ _ _ _ _
   | exact ih3 _ _ _ _ _ _ _ _ _ _ _ _ _ _
   | exact ih4 _ _ _ _ _ _ _ _ _ _ _ _ _ _
   | exact draw_Draws.mono _ _ _ _ _ _
   | exact prebendlaw11_awake.mono _
   | exact tree_Path.mono _ _ _
   | exact LeO.none _
   | refine LeO.ite ?_ ?_
   | refine LeO.bind ?_ (fun _ => ?_)
  ·intro y0 y1 y2 y3 y4 y5 y6 y7 y8 y9 y10 y11 y12 y13
   unfold prebendlaw11_DrawTakes.l1
   repeat' first
   | (with_reducible exact ih0 _ _ _ _ _ _ _)
   | (with_reducible exact ih1 _ _ _ _ _ _ _ _ _)
   | (with_reducible exact ih2 _ _ _ _ _ _ _ _ _ _ _ _ _ _ _)
   | (with_reducible exact ih3 _ _ _ _ _ _ _ _ _ _ _ _ _ _)
   | (with_reducible exact ih4 _ _ _ _ _ _ _ _ _ _ _ _ _ _)
   | (with_reducible exact draw_Draws.mono _ _ _ _ _ _)
   | (with_reducible exact prebendlaw11_awake.mono _)
   | (with_reducible exact tree_Path.mono _ _ _)
   | (with_reducible exact LeO.refl _)
   | (with_reducible exact LeO.none _)
   | (with_reducible refine LeO.ite ?_ ?_)
   | (with_reducible refine LeO.bind ?_ (fun _ => ?_))
   | exact ih0 _ _ _ _ _ _ _
   | exact ih1 _ _ _ _ _ _ _ _ _
   | exact ih2 _ _ _ _ _ _ _ _ _ _ _ _ _ _ _
   | exact ih3 _ _ _ _ _ _ _ _ _ _ _ _ _ _
   | exact ih4 _ _ _ _ _ _ _ _ _ _ _ _ _ _
   | exact draw_Draws.mono _ _ _ _ _ _
   | exact prebendlaw11_awake.mono _
   | exact tree_Path.mono _ _ _
   | exact LeO.none _
   | refine LeO.ite ?_ ?_
   | refine LeO.bind ?_ (fun _ => ?_)
theorem prebendlaw11_DrawTakes.mono : ∀ a0 a1 a2 a3 a4 k, LeO (prebendlaw11_DrawTakes.f k a0 a1 a2 a3 a4) (prebendlaw11_DrawTakes.f (k + 1) a0 a1 a2 a3 a4) := by
 intro a0 a1 a2 a3 a4 k
 obtain ⟨ih0, ih1, ih2, ih3, ih4⟩ := prebendlaw11_DrawTakes.mono_l k
 unfold prebendlaw11_DrawTakes.f
 repeat' first
   | (with_reducible exact ih0 _ _ _ _ _ _ _)
   | (with_reducible exact ih1 _ _ _ _ _ _ _ _ _)
   | (with_reducible exact ih2 _ _ _ _ _ _ _ _ _ _ _ _ _ _ _)
   | (with_reducible exact ih3 _ _ _ _ _ _ _ _ _ _ _ _ _ _)
   | (with_reducible exact ih4 _ _ _ _ _ _ _ _ _ _ _ _ _ _)
   | (with_reducible exact draw_Draws.mono _ _ _ _ _ _)
   | (with_reducible exact prebendlaw11_awake.mono _)
   | (with_reducible exact tree_Path.mono _ _ _)
   | (with_reducible exact LeO.refl _)
   | (with_reducible exact LeO.none _)
   | (with_reducible refine LeO.ite ?_ ?_)
   | (with_reducible refine LeO.bind ?_ (fun _ => ?_))
   | exact ih0 _ _ _ _ _ _ _
   | exact ih1 _ _ _ _ _ _ _ _ _
   | exact ih2 _ _ _ _ _ _ _ _ _ _ _ _ _ _ _
   | exact ih3 _ _ _ _ _ _ _ _ _ _ _ _ _ _
   | exact ih4 _ _ _ _ _ _ _ _ _ _ _ _ _ _
   | exact draw_Draws.mono _ _ _ _ _ _
   | exact prebendlaw11_awake.mono _
   | exact tree_Path.mono _ _ _
   | exact LeO.none _
   | refine LeO.ite ?_ ?_
   | refine LeO.bind ?_ (fun _ => ?_)
set_option maxHeartbeats 8000000 in
set_option maxRecDepth 100000 in
theorem prebendlaw11_DrawTakes.calls (k : Nat) (A0 : Option Addr) (c0 : Nat) (l0 : List (S62)) (A1 : Option Addr) (c1 : Nat) (l1 : List (S46)) (a2 : Int) (a3 : Int) (a4 : Int) (r : Bool) (w : World) (hr0 : Kd.C k62 w A0 l0.length l0) (hc0 : l0.length ≤ c0) (hr1 : Kd.C k46 w A1 l1.length l1) (hc1 : l1.length ≤ c1) (h : prebendlaw11_DrawTakes.f k l0 l1 a2 a3 a4 = some r) :
  Calls Try.prog 5 #[.slice A0 l0.length c0, .slice A1 l1.length c1, .int .i64 a2, .int .i64 a3, .int .i64 a4] w fun e w' => e = .returned (.bool r) ∧ Below w.heap.size w w' := by
 have hu46 := Try.underlying46
 have HR0 := Aside0.mk hr0
 have HC0 := Aside0.mk hc0
 clear hr0; clear hc0
 have HR1 := Aside0.mk hr1
 have HC1 := Aside0.mk hc1
 clear hr1; clear hc1
 have HB := Aside0.mk (Below.refl w.heap.size w)
 have H : ((prebendlaw11_few.f l0 l1).bind fun bt338 => ((draw_Draws.f k bt338.1 bt338.2 a2 a3 a4).bind fun bt344 => (if bt344.2 = 0 then ((tree_Path.f k bt338.1 a2).bind fun t349 => (prebendlaw11_DrawTakes.l0 k a4 bt338.2 bt344.1 t349 a3 0 0)) else ((prebendlaw11_awake.f k).bind fun t348 => (if t348 = true then (some ((bt344.1.length : Int) == 0)) else (some false)))))) = some r := h
 clear h
 replace H := Option.bind_eq_some_iff.mp H
 obtain ⟨⟨t338, t341⟩, A60, H⟩ := H
 replace H : ((draw_Draws.f k t338 t341 a2 a3 a4).bind fun bt344 => (if bt344.2 = 0 then ((tree_Path.f k t338 a2).bind fun t349 => (prebendlaw11_DrawTakes.l0 k a4 t341 bt344.1 t349 a3 0 0)) else ((prebendlaw11_awake.f k).bind fun t348 => (if t348 = true then (some ((bt344.1.length : Int) == 0)) else (some false))))) = some r := H
 have A6 := Aside0.mk A60
 clear A60
 replace H := Option.bind_eq_some_iff.mp H
 obtain ⟨⟨t344, t347⟩, A70, H⟩ := H
 replace H : (if t347 = 0 then ((tree_Path.f k t338 a2).bind fun t349 => (prebendlaw11_DrawTakes.l0 k a4 t341 t344 t349 a3 0 0)) else ((prebendlaw11_awake.f k).bind fun t348 => (if t348 = true then (some ((t344.length : Int) == 0)) else (some false)))) = some r := H
 have A7 := Aside0.mk A70
 clear A70
 by_cases c8 : t347 = 0
 ·rw [if_pos c8] at H
  have c8b0 : (t347 == 0) = true := beq_iff_eq.mpr c8
  have c8b1 : (t347 != 0) = false := bne_eq_false_iff_eq.mpr c8
  clear c8
  replace H := Option.bind_eq_some_iff.mp H
  obtain ⟨t349, A90, H⟩ := H
  replace H : (prebendlaw11_DrawTakes.l0 k a4 t341 t344 t349 a3 0 0) = some r := H
  have A9 := Aside0.mk A90
  clear A90
  have H' := Aside0.mk H
  clear H
  go_enter Try.func5, Try.ntmps5
  go_wp2_with (first | (go_at_call 8; (with_reducible refine (prebendlaw11_few.calls (fun k_ => k_ < w.heap.size) _ _ l0 (fun k_ => k_ < w.heap.size) _ _ l1 t338 t341 _ ?side1 ?side2 A6.out).mono ?_); (case side1 => exact Kd.V_mk HC0.out (Kd.F_below (Kd.C_F k62_heap HR0.out) (mB HB.out))); (case side2 => exact Kd.V_mk HC1.out (Kd.F_below (Kd.C_F k46_heap HR1.out) (mB HB.out))); rintro e w10 ⟨v339, v342, rfl, ho0, ho1, hb⟩; have n0_ := Aside0.mk (Kd.V_lower (Kd.V_mono (ok' := fun k_ => True) ho0 (fun k_ hk_ => trivial)) (below_size (mB HB.out))); have n1_ := Aside0.mk (Kd.V_lower (Kd.V_mono (ok' := fun k_ => True) ho1 (fun k_ hk_ => trivial)) (below_size (mB HB.out))); have n2_ := Aside0.mk (below_step (mB HB.out) hb); clear HB; have HO340 := n0_; have HO343 := n1_; have HB := n2_; clear n0_ n1_ n2_; (try clear hb); (try clear hb2); (try clear hk); (try clear hi); (try clear ho0); (try clear ho1); obtain ⟨Ao11, co11, eo11⟩ := Kd.V_slice HO340.out; subst eo11; obtain ⟨Ao12, co12, eo12⟩ := Kd.V_slice HO343.out; subst eo12) | (go_at_call 9; (with_reducible refine (draw_Draws.calls k _ _ t338 _ _ t341 a2 a3 a4 t344 t347 _ ?side1 ?side2 ?side3 ?side4 A7.out).mono ?_); (case side1 => exact mC (Kd.V_reads' HO340.out).2.2); (case side2 => exact (Kd.V_reads' HO340.out).2.1); (case side3 => exact mC (Kd.V_reads' HO343.out).2.2); (case side4 => exact (Kd.V_reads' HO343.out).2.1); rintro e w13 ⟨v345, rfl, ho0, hb⟩; have n0_ := Aside0.mk (Kd.V_below (mV HO340.out) hb); have n1_ := Aside0.mk (Kd.V_below (mV HO343.out) hb); have n2_ := Aside0.mk (Kd.V_lower (Kd.V_mono (ok' := fun k_ => True) ho0 (fun k_ hk_ => trivial)) (below_size (mB HB.out))); have n3_ := Aside0.mk (below_step (mB HB.out) hb); clear HO340; clear HO343; clear HB; have HO340 := n0_; have HO343 := n1_; have HO346 := n2_; have HB := n3_; clear n0_ n1_ n2_ n3_; (try clear hb); (try clear hb2); (try clear hk); (try clear hi); (try clear ho0)) | (go_at_call 20; (with_reducible refine (tree_Path.calls k _ _ t338 a2 t349 _ ?side1 ?side2 A9.out).mono ?_); (case side1 => exact mC (Kd.V_reads' HO340.out).2.2); (case side2 => exact (Kd.V_reads' HO340.out).2.1); rintro e w14 ⟨v350, rfl, ho0, hb⟩; have n0_ := Aside0.mk (Kd.V_below (mV HO340.out) hb); have n1_ := Aside0.mk (Kd.V_below (mV HO343.out) hb); have n2_ := Aside0.mk (Kd.V_below (mV HO346.out) hb); have n3_ := Aside0.mk (Kd.V_lower (Kd.V_mono (ok' := fun k_ => True) ho0 (fun k_ hk_ => trivial)) (below_size (mB HB.out))); have n4_ := Aside0.mk (below_step (mB HB.out) hb); clear HO340; clear HO343; clear HO346; clear HB; have HO340 := n0_; have HO343 := n1_; have HO346 := n2_; have HO351 := n3_; have HB := n4_; clear n0_ n1_ n2_ n3_ n4_; (try clear hb); (try clear hb2); (try clear hk); (try clear hi); (try clear ho0)))
  repeat (go_quiet (first | (go_at_call 8; (with_reducible refine (prebendlaw11_few.calls (fun k_ => k_ < w.heap.size) _ _ l0 (fun k_ => k_ < w.heap.size) _ _ l1 t338 t341 _ ?side1 ?side2 A6.out).mono ?_); (case side1 => exact Kd.V_mk HC0.out (Kd.F_below (Kd.C_F k62_heap HR0.out) (mB HB.out))); (case side2 => exact Kd.V_mk HC1.out (Kd.F_below (Kd.C_F k46_heap HR1.out) (mB HB.out))); rintro e w10 ⟨v339, v342, rfl, ho0, ho1, hb⟩; have n0_ := Aside0.mk (Kd.V_lower (Kd.V_mono (ok' := fun k_ => True) ho0 (fun k_ hk_ => trivial)) (below_size (mB HB.out))); have n1_ := Aside0.mk (Kd.V_lower (Kd.V_mono (ok' := fun k_ => True) ho1 (fun k_ hk_ => trivial)) (below_size (mB HB.out))); have n2_ := Aside0.mk (below_step (mB HB.out) hb); clear HB; have HO340 := n0_; have HO343 := n1_; have HB := n2_; clear n0_ n1_ n2_; (try clear hb); (try clear hb2); (try clear hk); (try clear hi); (try clear ho0); (try clear ho1); obtain ⟨Ao11, co11, eo11⟩ := Kd.V_slice HO340.out; subst eo11; obtain ⟨Ao12, co12, eo12⟩ := Kd.V_slice HO343.out; subst eo12) | (go_at_call 9; (with_reducible refine (draw_Draws.calls k _ _ t338 _ _ t341 a2 a3 a4 t344 t347 _ ?side1 ?side2 ?side3 ?side4 A7.out).mono ?_); (case side1 => exact mC (Kd.V_reads' HO340.out).2.2); (case side2 => exact (Kd.V_reads' HO340.out).2.1); (case side3 => exact mC (Kd.V_reads' HO343.out).2.2); (case side4 => exact (Kd.V_reads' HO343.out).2.1); rintro e w13 ⟨v345, rfl, ho0, hb⟩; have n0_ := Aside0.mk (Kd.V_below (mV HO340.out) hb); have n1_ := Aside0.mk (Kd.V_below (mV HO343.out) hb); have n2_ := Aside0.mk (Kd.V_lower (Kd.V_mono (ok' := fun k_ => True) ho0 (fun k_ hk_ => trivial)) (below_size (mB HB.out))); have n3_ := Aside0.mk (below_step (mB HB.out) hb); clear HO340; clear HO343; clear HB; have HO340 := n0_; have HO343 := n1_; have HO346 := n2_; have HB := n3_; clear n0_ n1_ n2_ n3_; (try clear hb); (try clear hb2); (try clear hk); (try clear hi); (try clear ho0)) | (go_at_call 20; (with_reducible refine (tree_Path.calls k _ _ t338 a2 t349 _ ?side1 ?side2 A9.out).mono ?_); (case side1 => exact mC (Kd.V_reads' HO340.out).2.2); (case side2 => exact (Kd.V_reads' HO340.out).2.1); rintro e w14 ⟨v350, rfl, ho0, hb⟩; have n0_ := Aside0.mk (Kd.V_below (mV HO340.out) hb); have n1_ := Aside0.mk (Kd.V_below (mV HO343.out) hb); have n2_ := Aside0.mk (Kd.V_below (mV HO346.out) hb); have n3_ := Aside0.mk (Kd.V_lower (Kd.V_mono (ok' := fun k_ => True) ho0 (fun k_ hk_ => trivial)) (below_size (mB HB.out))); have n4_ := Aside0.mk (below_step (mB HB.out) hb); clear HO340; clear HO343; clear HO346; clear HB; have HO340 := n0_; have HO343 := n1_; have HO346 := n2_; have HO351 := n3_; have HB := n4_; clear n0_ n1_ n2_ n3_ n4_; (try clear hb); (try clear hb2); (try clear hk); (try clear hi); (try clear ho0))); try go_wp2_with (first | (go_at_call 8; (with_reducible refine (prebendlaw11_few.calls (fun k_ => k_ < w.heap.size) _ _ l0 (fun k_ => k_ < w.heap.size) _ _ l1 t338 t341 _ ?side1 ?side2 A6.out).mono ?_); (case side1 => exact Kd.V_mk HC0.out (Kd.F_below (Kd.C_F k62_heap HR0.out) (mB HB.out))); (case side2 => exact Kd.V_mk HC1.out (Kd.F_below (Kd.C_F k46_heap HR1.out) (mB HB.out))); rintro e w10 ⟨v339, v342, rfl, ho0, ho1, hb⟩; have n0_ := Aside0.mk (Kd.V_lower (Kd.V_mono (ok' := fun k_ => True) ho0 (fun k_ hk_ => trivial)) (below_size (mB HB.out))); have n1_ := Aside0.mk (Kd.V_lower (Kd.V_mono (ok' := fun k_ => True) ho1 (fun k_ hk_ => trivial)) (below_size (mB HB.out))); have n2_ := Aside0.mk (below_step (mB HB.out) hb); clear HB; have HO340 := n0_; have HO343 := n1_; have HB := n2_; clear n0_ n1_ n2_; (try clear hb); (try clear hb2); (try clear hk); (try clear hi); (try clear ho0); (try clear ho1); obtain ⟨Ao11, co11, eo11⟩ := Kd.V_slice HO340.out; subst eo11; obtain ⟨Ao12, co12, eo12⟩ := Kd.V_slice HO343.out; subst eo12) | (go_at_call 9; (with_reducible refine (draw_Draws.calls k _ _ t338 _ _ t341 a2 a3 a4 t344 t347 _ ?side1 ?side2 ?side3 ?side4 A7.out).mono ?_); (case side1 => exact mC (Kd.V_reads' HO340.out).2.2); (case side2 => exact (Kd.V_reads' HO340.out).2.1); (case side3 => exact mC (Kd.V_reads' HO343.out).2.2); (case side4 => exact (Kd.V_reads' HO343.out).2.1); rintro e w13 ⟨v345, rfl, ho0, hb⟩; have n0_ := Aside0.mk (Kd.V_below (mV HO340.out) hb); have n1_ := Aside0.mk (Kd.V_below (mV HO343.out) hb); have n2_ := Aside0.mk (Kd.V_lower (Kd.V_mono (ok' := fun k_ => True) ho0 (fun k_ hk_ => trivial)) (below_size (mB HB.out))); have n3_ := Aside0.mk (below_step (mB HB.out) hb); clear HO340; clear HO343; clear HB; have HO340 := n0_; have HO343 := n1_; have HO346 := n2_; have HB := n3_; clear n0_ n1_ n2_ n3_; (try clear hb); (try clear hb2); (try clear hk); (try clear hi); (try clear ho0)) | (go_at_call 20; (with_reducible refine (tree_Path.calls k _ _ t338 a2 t349 _ ?side1 ?side2 A9.out).mono ?_); (case side1 => exact mC (Kd.V_reads' HO340.out).2.2); (case side2 => exact (Kd.V_reads' HO340.out).2.1); rintro e w14 ⟨v350, rfl, ho0, hb⟩; have n0_ := Aside0.mk (Kd.V_below (mV HO340.out) hb); have n1_ := Aside0.mk (Kd.V_below (mV HO343.out) hb); have n2_ := Aside0.mk (Kd.V_below (mV HO346.out) hb); have n3_ := Aside0.mk (Kd.V_lower (Kd.V_mono (ok' := fun k_ => True) ho0 (fun k_ hk_ => trivial)) (below_size (mB HB.out))); have n4_ := Aside0.mk (below_step (mB HB.out) hb); clear HO340; clear HO343; clear HO346; clear HB; have HO340 := n0_; have HO343 := n1_; have HO346 := n2_; have HO351 := n3_; have HB := n4_; clear n0_ n1_ n2_ n3_ n4_; (try clear hb); (try clear hb2); (try clear hk); (try clear hi); (try clear ho0))))
  go_loopg [16, 17, 18] k (fun kq v16 v17 v18 w' => ∃ (x16_1 : Int) (x17_1 : Int) (x18_1 : Int), v16 = .int .i64 x16_1 ∧ v17 = .int .i64 x17_1 ∧ v18 = .int .i64 x18_1 ∧ Aside0 (prebendlaw11_DrawTakes.l0 kq a4 t341 t344 t349 x16_1 x17_1 x18_1 = some r) ∧ Aside0 (kq ≤ k) ∧ Aside0 (Kd.V k46 46 w' w.heap.size (fun _ => True) (.slice Ao12 t341.length co12) t341) ∧ Aside0 (Kd.V k37 37 w' w.heap.size (fun _ => True) v345 t344) ∧ Aside0 (Kd.V (Kd.int .i64) 3 w' w.heap.size (fun _ => True) v350 t349) ∧ Aside0 (Below w.heap.size w w'))
  case atStart => exact ⟨(a3), (0), (0), ez, ez, ez, H', ⟨Nat.le_refl _⟩, ⟨mV HO343.out⟩, ⟨mV HO346.out⟩, ⟨mV HO351.out⟩, ⟨mB HB.out⟩⟩
  case round =>
   clear H'
   (try clear c1); (try clear p2); (try clear c5); (try clear c8); (try clear c8b0); (try clear c8b1)
   obtain ⟨x16_1, x17_1, x18_1, rfl, rfl, rfl, HA, HK1, HO_12, HO_13, HO_15, HB⟩ := hrel
   cases gk with
   | zero => exact absurd HA.out (by simp [prebendlaw11_DrawTakes.l0])
   | succ k1 =>
    have H := HA.out
    clear HA
    simp only [prebendlaw11_DrawTakes.l0] at H
    by_cases c15 : x18_1 < (t344.length : Int)
    ·rw [if_pos c15] at H
     have c15b0 : decide (x18_1 < (t344.length : Int)) = true := decide_eq_true c15
     clear c15
     by_cases c16 : 0 ≤ x18_1
     ·rw [if_pos c16] at H
      have c16b0 : decide (0 ≤ x18_1) = true := decide_eq_true c16
      clear c16
      have HC17 := Aside0.mk H
      clear H
      obtain ⟨Ao18, co18, eo18⟩ := Kd.V_slice HO_13.out
      subst eo18
      have p353 : 0 ≤ (x18_1 : Int) := oda
      have q353 : x18_1 < (t344.length : Int) := oda
      obtain ⟨ad353, e353, hx353_0, hx353_1⟩ := at_T37 (Kd.V_reads' HO_13.out).2.2 x18_1 p353 q353
      cases e353
      replace p353 := eq_true p353
      replace q353 := eq_true q353
      go_upto_region 11 with (fail)
      repeat (go_quiet (fail); go_upto_region 11 with (fail))
      go_cut [67] (fun v67 wc => ∃ (kq : Nat) (x67_16 : Bool), v67 = .bool x67_16 ∧ Aside0 (prebendlaw11_DrawTakes.j1 kq a4 t341 t344 t349 x16_1 x17_1 x18_1 ((rd_T37 t344 x18_1).f0) x67_16 = some r) ∧ Aside0 (kq ≤ k1) ∧ Aside0 (Kd.V k46 46 wc w.heap.size (fun _ => True) (.slice Ao12 t341.length co12) t341) ∧ Aside0 (Kd.V k37 37 wc w.heap.size (fun _ => True) (.slice (some ad353) t344.length co18) t344) ∧ Aside0 (Kd.V (Kd.int .i64) 3 wc w.heap.size (fun _ => True) v350 t349) ∧ Aside0 (Below w.heap.size w wc))
      case first =>
       have H := HC17.out
       clear HC17
       by_cases c19 : ((rd_T37 t344 x18_1).f0) < 0
       ·rw [if_pos c19] at H
        have c19b0 : decide (((rd_T37 t344 x18_1).f0) < 0) = true := decide_eq_true c19
        clear c19
        (first | rw [c19b0] | (simp only [i64_w, i32_w]; rw [c19b0]) | skip)
        have H' := Aside0.mk H
        clear H
        go_wp2
        repeat (go_quiet (fail); try go_wp2)
        go_meet
        case rel => exact ⟨_, (true), ez, H', ⟨by have := HK1.out; first | omega | exact Nat.le_refl _⟩, ⟨mV HO_12.out⟩, ⟨mV HO_13.out⟩, ⟨mV HO_15.out⟩, ⟨mB HB.out⟩⟩
       ·rw [if_neg c19] at H
        have c19b0 : decide (((rd_T37 t344 x18_1).f0) < 0) = false := decide_eq_false c19
        clear c19
        (first | rw [c19b0] | (simp only [i64_w, i32_w]; rw [c19b0]) | skip)
        have H' := Aside0.mk H
        clear H
        go_wp2
        repeat (go_quiet (fail); try go_wp2)
        go_meet
        case rel => exact ⟨_, (decide (((rd_T37 t344 x18_1).f0) ≥ (t341.length : Int))), ez, H', ⟨by have := HK1.out; first | omega | exact Nat.le_refl _⟩, ⟨mV HO_12.out⟩, ⟨mV HO_13.out⟩, ⟨mV HO_15.out⟩, ⟨mB HB.out⟩⟩
      case rest =>
       clear HC17
       (try clear c1); (try clear p2); (try clear p3); (try clear q3); (try clear hx3); (try clear c5); (try clear c8); (try clear c8b0); (try clear c8b1); (try clear c15); (try clear c15b0); (try clear c16); (try clear c16b0); (try clear c19); (try clear c19b0); (try clear hx353_0); (try clear hx353_1); (try clear p2); (try clear p353); (try clear q353)
       obtain ⟨kq, x67_16, rfl, HA, HJ16, HO_12, HO_13, HO_15, HB⟩ := hcut
       cases kq with
       | zero => exact absurd HA.out (by simp [prebendlaw11_DrawTakes.j1])
       | succ kj16 =>
        have H := HA.out
        clear HA
        simp only [prebendlaw11_DrawTakes.j1] at H
        by_cases c20 : x67_16 = true
        ·subst c20
         have H1 : (some false) = some r := by rw [if_pos rfl] at H; exact H
         clear H
         have H := H1
         clear H1
         obtain rfl := Option.some.inj H
         go_wp2
         repeat (go_quiet (fail); try go_wp2)
         go_ret
         exact ⟨by first | rfl | (simp [errW_none, errW_some] <;> rfl) | (simp [*, errW_none, errW_some] <;> rfl), by repeat (first | (with_reducible first | exact HB.out | apply below_alloc | apply pw_below_drewN | apply below_drew1) | exact HB.out)⟩
        ·replace c20 := Bool.eq_false_iff.mpr c20
         subst c20
         have H1 : (if 0 ≤ ((rd_T37 t344 x18_1).f0) then (if ((rd_T37 t344 x18_1).f0) < (t341.length : Int) then (if 0 ≤ x18_1 then (if x18_1 < (t344.length : Int) then (if ((rd_T37 t344 x18_1).f1) < 1 then (prebendlaw11_DrawTakes.j2 kj16 a4 t341 t344 t349 x16_1 x17_1 x18_1 ((rd_T37 t344 x18_1).f0) true ((rd_T46 t341 ((rd_T37 t344 x18_1).f0)).f0) ((rd_T46 t341 ((rd_T37 t344 x18_1).f0)).f1) ((rd_T46 t341 ((rd_T37 t344 x18_1).f0)).f2) ((rd_T46 t341 ((rd_T37 t344 x18_1).f0)).f3) ((rd_T46 t341 ((rd_T37 t344 x18_1).f0)).f4) ((rd_T46 t341 ((rd_T37 t344 x18_1).f0)).f5)) else (if ((rd_T37 t344 x18_1).f1) > ((rd_T46 t341 ((rd_T37 t344 x18_1).f0)).f3) then (prebendlaw11_DrawTakes.j2 kj16 a4 t341 t344 t349 x16_1 x17_1 x18_1 ((rd_T37 t344 x18_1).f0) true ((rd_T46 t341 ((rd_T37 t344 x18_1).f0)).f0) ((rd_T46 t341 ((rd_T37 t344 x18_1).f0)).f1) ((rd_T46 t341 ((rd_T37 t344 x18_1).f0)).f2) ((rd_T46 t341 ((rd_T37 t344 x18_1).f0)).f3) ((rd_T46 t341 ((rd_T37 t344 x18_1).f0)).f4) ((rd_T46 t341 ((rd_T37 t344 x18_1).f0)).f5)) else (if ((rd_T46 t341 ((rd_T37 t344 x18_1).f0)).f1) > a4 then (prebendlaw11_DrawTakes.j2 kj16 a4 t341 t344 t349 x16_1 x17_1 x18_1 ((rd_T37 t344 x18_1).f0) true ((rd_T46 t341 ((rd_T37 t344 x18_1).f0)).f0) ((rd_T46 t341 ((rd_T37 t344 x18_1).f0)).f1) ((rd_T46 t341 ((rd_T37 t344 x18_1).f0)).f2) ((rd_T46 t341 ((rd_T37 t344 x18_1).f0)).f3) ((rd_T46 t341 ((rd_T37 t344 x18_1).f0)).f4) ((rd_T46 t341 ((rd_T37 t344 x18_1).f0)).f5)) else (if ((rd_T46 t341 ((rd_T37 t344 x18_1).f0)).f2) ≤ a4 then (prebendlaw11_DrawTakes.j2 kj16 a4 t341 t344 t349 x16_1 x17_1 x18_1 ((rd_T37 t344 x18_1).f0) true ((rd_T46 t341 ((rd_T37 t344 x18_1).f0)).f0) ((rd_T46 t341 ((rd_T37 t344 x18_1).f0)).f1) ((rd_T46 t341 ((rd_T37 t344 x18_1).f0)).f2) ((rd_T46 t341 ((rd_T37 t344 x18_1).f0)).f3) ((rd_T46 t341 ((rd_T37 t344 x18_1).f0)).f4) ((rd_T46 t341 ((rd_T37 t344 x18_1).f0)).f5)) else (if (wrap64 (x18_1 + 1)) < (t344.length : Int) then (prebendlaw11_DrawTakes.j2 kj16 a4 t341 t344 t349 x16_1 x17_1 x18_1 ((rd_T37 t344 x18_1).f0) (((rd_T37 t344 x18_1).f1) != ((rd_T46 t341 ((rd_T37 t344 x18_1).f0)).f3)) ((rd_T46 t341 ((rd_T37 t344 x18_1).f0)).f0) ((rd_T46 t341 ((rd_T37 t344 x18_1).f0)).f1) ((rd_T46 t341 ((rd_T37 t344 x18_1).f0)).f2) ((rd_T46 t341 ((rd_T37 t344 x18_1).f0)).f3) ((rd_T46 t341 ((rd_T37 t344 x18_1).f0)).f4) ((rd_T46 t341 ((rd_T37 t344 x18_1).f0)).f5)) else (prebendlaw11_DrawTakes.j2 kj16 a4 t341 t344 t349 x16_1 x17_1 x18_1 ((rd_T37 t344 x18_1).f0) false ((rd_T46 t341 ((rd_T37 t344 x18_1).f0)).f0) ((rd_T46 t341 ((rd_T37 t344 x18_1).f0)).f1) ((rd_T46 t341 ((rd_T37 t344 x18_1).f0)).f2) ((rd_T46 t341 ((rd_T37 t344 x18_1).f0)).f3) ((rd_T46 t341 ((rd_T37 t344 x18_1).f0)).f4) ((rd_T46 t341 ((rd_T37 t344 x18_1).f0)).f5))))))) else (none)) else (none)) else (none)) else (none)) = some r := by rw [if_neg (show ¬ (false = true) by decide)] at H; exact H
         clear H
         have H := H1
         clear H1
         by_cases c21 : 0 ≤ ((rd_T37 t344 x18_1).f0)
         ·rw [if_pos c21] at H
          have c21b0 : decide (0 ≤ ((rd_T37 t344 x18_1).f0)) = true := decide_eq_true c21
          clear c21
          by_cases c22 : ((rd_T37 t344 x18_1).f0) < (t341.length : Int)
          ·rw [if_pos c22] at H
           have c22b0 : decide (((rd_T37 t344 x18_1).f0) < (t341.length : Int)) = true := decide_eq_true c22
           clear c22
           have HC23 := Aside0.mk H
           clear H
           have p354 : 0 ≤ (((rd_T37 t344 x18_1).f0) : Int) := oda
           have q354 : ((rd_T37 t344 x18_1).f0) < (t341.length : Int) := oda
           obtain ⟨ad354, e354, hx354_0, hx354_1, hx354_2, hx354_3, hx354_4, hx354_5⟩ := at_T46 (Kd.V_reads' HO_12.out).2.2 ((rd_T37 t344 x18_1).f0) p354 q354
           cases e354
           replace p354 := eq_true p354
           replace q354 := eq_true q354
           go_upto_region 14 with (first | ((with_reducible refine gate_dst (N := 20) rfl ?_); (try (refine gate_guard (by rfl) ?_; dsimp only)); refine box_event ?hg (N := 20) ?hd (cs := #[.int .i64 0, .int .i64 0, .int .i64 0, .int .i64 0, .int .i64 0, .int .i64 0]) (t := 46) ?hr ?_; (case hd => rfl); (case hg => rfl); (case hr => first | (go_simp; done) | (go_simp; rfl)); intro gb355 hg w24 hbox hb; have n0_ := Aside0.mk (Kd.V_below (Kd.V_elderB (mV HO_12.out) gb355 (Nat.le_of_eq hg.symm)) hb); have n1_ := Aside0.mk (Kd.V_below (Kd.V_elderB (mV HO_13.out) gb355 (Nat.le_of_eq hg.symm)) hb); have n2_ := Aside0.mk (Kd.V_below (Kd.V_elderB (mV HO_15.out) gb355 (Nat.le_of_eq hg.symm)) hb); have n3_ := Aside0.mk (below_step (mB HB.out) hb); have n4_ := Aside0.mk (hbox); have n5_ := Aside0.mk ((by rw [hg]; exact (below_size (mB HB.out)) : w.heap.size ≤ gb355)); have n6_ := Aside0.mk ((by rw [hg]; exact (below_size (mB HB.out)) : w.heap.size ≤ gb355)); clear HO_12; clear HO_13; clear HO_15; clear HB; have HO_12 := n0_; have HO_13 := n1_; have HO_15 := n2_; have HB := n3_; have BK355 := n4_; have GW355 := n5_; have GE355 := n6_; clear n0_ n1_ n2_ n3_ n4_ n5_ n6_; clear hb hbox hg; have hcz25_0 : w24.cell? ⟨gb355, 0, none⟩ = some (.int .i64 0) := (blk_cell BK355.out 0).trans rfl; have hcz25_1 : w24.cell? ⟨gb355, 1, none⟩ = some (.int .i64 0) := (blk_cell BK355.out 1).trans rfl; have hcz25_2 : w24.cell? ⟨gb355, 2, none⟩ = some (.int .i64 0) := (blk_cell BK355.out 2).trans rfl; have hcz25_3 : w24.cell? ⟨gb355, 3, none⟩ = some (.int .i64 0) := (blk_cell BK355.out 3).trans rfl; have hcz25_4 : w24.cell? ⟨gb355, 4, none⟩ = some (.int .i64 0) := (blk_cell BK355.out 4).trans rfl; have hcz25_5 : w24.cell? ⟨gb355, 5, none⟩ = some (.int .i64 0) := (blk_cell BK355.out 5).trans rfl; have hfz25_0 := blk_frozen BK355.out 0; have hfz25_1 := blk_frozen BK355.out 1; have hfz25_2 := blk_frozen BK355.out 2; have hfz25_3 := blk_frozen BK355.out 3; have hfz25_4 := blk_frozen BK355.out 4; have hfz25_5 := blk_frozen BK355.out 5))
           repeat (go_quiet (first | ((with_reducible refine gate_dst (N := 20) rfl ?_); (try (refine gate_guard (by rfl) ?_; dsimp only)); refine box_event ?hg (N := 20) ?hd (cs := #[.int .i64 0, .int .i64 0, .int .i64 0, .int .i64 0, .int .i64 0, .int .i64 0]) (t := 46) ?hr ?_; (case hd => rfl); (case hg => rfl); (case hr => first | (go_simp; done) | (go_simp; rfl)); intro gb355 hg w24 hbox hb; have n0_ := Aside0.mk (Kd.V_below (Kd.V_elderB (mV HO_12.out) gb355 (Nat.le_of_eq hg.symm)) hb); have n1_ := Aside0.mk (Kd.V_below (Kd.V_elderB (mV HO_13.out) gb355 (Nat.le_of_eq hg.symm)) hb); have n2_ := Aside0.mk (Kd.V_below (Kd.V_elderB (mV HO_15.out) gb355 (Nat.le_of_eq hg.symm)) hb); have n3_ := Aside0.mk (below_step (mB HB.out) hb); have n4_ := Aside0.mk (hbox); have n5_ := Aside0.mk ((by rw [hg]; exact (below_size (mB HB.out)) : w.heap.size ≤ gb355)); have n6_ := Aside0.mk ((by rw [hg]; exact (below_size (mB HB.out)) : w.heap.size ≤ gb355)); clear HO_12; clear HO_13; clear HO_15; clear HB; have HO_12 := n0_; have HO_13 := n1_; have HO_15 := n2_; have HB := n3_; have BK355 := n4_; have GW355 := n5_; have GE355 := n6_; clear n0_ n1_ n2_ n3_ n4_ n5_ n6_; clear hb hbox hg; have hcz25_0 : w24.cell? ⟨gb355, 0, none⟩ = some (.int .i64 0) := (blk_cell BK355.out 0).trans rfl; have hcz25_1 : w24.cell? ⟨gb355, 1, none⟩ = some (.int .i64 0) := (blk_cell BK355.out 1).trans rfl; have hcz25_2 : w24.cell? ⟨gb355, 2, none⟩ = some (.int .i64 0) := (blk_cell BK355.out 2).trans rfl; have hcz25_3 : w24.cell? ⟨gb355, 3, none⟩ = some (.int .i64 0) := (blk_cell BK355.out 3).trans rfl; have hcz25_4 : w24.cell? ⟨gb355, 4, none⟩ = some (.int .i64 0) := (blk_cell BK355.out 4).trans rfl; have hcz25_5 : w24.cell? ⟨gb355, 5, none⟩ = some (.int .i64 0) := (blk_cell BK355.out 5).trans rfl; have hfz25_0 := blk_frozen BK355.out 0; have hfz25_1 := blk_frozen BK355.out 1; have hfz25_2 := blk_frozen BK355.out 2; have hfz25_3 := blk_frozen BK355.out 3; have hfz25_4 := blk_frozen BK355.out 4; have hfz25_5 := blk_frozen BK355.out 5)); go_upto_region 14 with (first | ((with_reducible refine gate_dst (N := 20) rfl ?_); (try (refine gate_guard (by rfl) ?_; dsimp only)); refine box_event ?hg (N := 20) ?hd (cs := #[.int .i64 0, .int .i64 0, .int .i64 0, .int .i64 0, .int .i64 0, .int .i64 0]) (t := 46) ?hr ?_; (case hd => rfl); (case hg => rfl); (case hr => first | (go_simp; done) | (go_simp; rfl)); intro gb355 hg w24 hbox hb; have n0_ := Aside0.mk (Kd.V_below (Kd.V_elderB (mV HO_12.out) gb355 (Nat.le_of_eq hg.symm)) hb); have n1_ := Aside0.mk (Kd.V_below (Kd.V_elderB (mV HO_13.out) gb355 (Nat.le_of_eq hg.symm)) hb); have n2_ := Aside0.mk (Kd.V_below (Kd.V_elderB (mV HO_15.out) gb355 (Nat.le_of_eq hg.symm)) hb); have n3_ := Aside0.mk (below_step (mB HB.out) hb); have n4_ := Aside0.mk (hbox); have n5_ := Aside0.mk ((by rw [hg]; exact (below_size (mB HB.out)) : w.heap.size ≤ gb355)); have n6_ := Aside0.mk ((by rw [hg]; exact (below_size (mB HB.out)) : w.heap.size ≤ gb355)); clear HO_12; clear HO_13; clear HO_15; clear HB; have HO_12 := n0_; have HO_13 := n1_; have HO_15 := n2_; have HB := n3_; have BK355 := n4_; have GW355 := n5_; have GE355 := n6_; clear n0_ n1_ n2_ n3_ n4_ n5_ n6_; clear hb hbox hg; have hcz25_0 : w24.cell? ⟨gb355, 0, none⟩ = some (.int .i64 0) := (blk_cell BK355.out 0).trans rfl; have hcz25_1 : w24.cell? ⟨gb355, 1, none⟩ = some (.int .i64 0) := (blk_cell BK355.out 1).trans rfl; have hcz25_2 : w24.cell? ⟨gb355, 2, none⟩ = some (.int .i64 0) := (blk_cell BK355.out 2).trans rfl; have hcz25_3 : w24.cell? ⟨gb355, 3, none⟩ = some (.int .i64 0) := (blk_cell BK355.out 3).trans rfl; have hcz25_4 : w24.cell? ⟨gb355, 4, none⟩ = some (.int .i64 0) := (blk_cell BK355.out 4).trans rfl; have hcz25_5 : w24.cell? ⟨gb355, 5, none⟩ = some (.int .i64 0) := (blk_cell BK355.out 5).trans rfl; have hfz25_0 := blk_frozen BK355.out 0; have hfz25_1 := blk_frozen BK355.out 1; have hfz25_2 := blk_frozen BK355.out 2; have hfz25_3 := blk_frozen BK355.out 3; have hfz25_4 := blk_frozen BK355.out 4; have hfz25_5 := blk_frozen BK355.out 5)))
           (try simp only [Act.put, List.setIfInBounds_toArray, List.set_cons_zero, List.set_cons_succ])
           go_cut [116] (fun v116 wc => ∃ (kq : Nat) (x116_22 : Bool), v116 = .bool x116_22 ∧ Aside0 (prebendlaw11_DrawTakes.j2 kq a4 t341 t344 t349 x16_1 x17_1 x18_1 ((rd_T37 t344 x18_1).f0) x116_22 ((rd_T46 t341 ((rd_T37 t344 x18_1).f0)).f0) ((rd_T46 t341 ((rd_T37 t344 x18_1).f0)).f1) ((rd_T46 t341 ((rd_T37 t344 x18_1).f0)).f2) ((rd_T46 t341 ((rd_T37 t344 x18_1).f0)).f3) ((rd_T46 t341 ((rd_T37 t344 x18_1).f0)).f4) ((rd_T46 t341 ((rd_T37 t344 x18_1).f0)).f5) = some r) ∧ Aside0 (kq ≤ kj16) ∧ Aside0 (Kd.V k46 46 wc w.heap.size (fun k_ => k_ ≠ gb355) (.slice (some ad354) t341.length co12) t341) ∧ Aside0 (Kd.V k37 37 wc w.heap.size (fun k_ => k_ ≠ gb355) (.slice (some ad353) t344.length co18) t344) ∧ Aside0 (Kd.V (Kd.int .i64) 3 wc w.heap.size (fun k_ => k_ ≠ gb355) v350 t349) ∧ Aside0 (wc.heap[gb355]? = some (.cells #[.int .i64 ((rd_T46 t341 ((rd_T37 t344 x18_1).f0)).f0), .int .i64 ((rd_T46 t341 ((rd_T37 t344 x18_1).f0)).f1), .int .i64 ((rd_T46 t341 ((rd_T37 t344 x18_1).f0)).f2), .int .i64 ((rd_T46 t341 ((rd_T37 t344 x18_1).f0)).f3), .int .i64 ((rd_T46 t341 ((rd_T37 t344 x18_1).f0)).f4), .int .i64 ((rd_T46 t341 ((rd_T37 t344 x18_1).f0)).f5)] 46 (0, 0))) ∧ Aside0 (Below w.heap.size w wc))
           case first =>
            have n0_ : Aside0 (Kd.V k46 46 ((((((w24.setCell ⟨gb355, 0, none⟩ (.int .i64 ((rd_T46 t341 ((rd_T37 t344 x18_1).f0)).f0))).setCell ⟨gb355, 1, none⟩ (.int .i64 ((rd_T46 t341 ((rd_T37 t344 x18_1).f0)).f1))).setCell ⟨gb355, 2, none⟩ (.int .i64 ((rd_T46 t341 ((rd_T37 t344 x18_1).f0)).f2))).setCell ⟨gb355, 3, none⟩ (.int .i64 ((rd_T46 t341 ((rd_T37 t344 x18_1).f0)).f3))).setCell ⟨gb355, 4, none⟩ (.int .i64 ((rd_T46 t341 ((rd_T37 t344 x18_1).f0)).f4))).setCell ⟨gb355, 5, none⟩ (.int .i64 ((rd_T46 t341 ((rd_T37 t344 x18_1).f0)).f5))) w.heap.size (fun k_ => k_ ≠ gb355) (.slice (some ad354) t341.length co12) t341) := ⟨Kd.V_mono (Kd.V_far (p := ⟨gb355, 5, none⟩) (Kd.V_far (p := ⟨gb355, 4, none⟩) (Kd.V_far (p := ⟨gb355, 3, none⟩) (Kd.V_far (p := ⟨gb355, 2, none⟩) (Kd.V_far (p := ⟨gb355, 1, none⟩) (Kd.V_far (p := ⟨gb355, 0, none⟩) (Kd.V_mono HO_12.out (fun k_ hk => (⟨hk, hk.2⟩ : _ ∧ k_ ≠ gb355))) (fun _ hk => hk.2) (.int .i64 ((rd_T46 t341 ((rd_T37 t344 x18_1).f0)).f0))) (fun _ hk => hk.2) (.int .i64 ((rd_T46 t341 ((rd_T37 t344 x18_1).f0)).f1))) (fun _ hk => hk.2) (.int .i64 ((rd_T46 t341 ((rd_T37 t344 x18_1).f0)).f2))) (fun _ hk => hk.2) (.int .i64 ((rd_T46 t341 ((rd_T37 t344 x18_1).f0)).f3))) (fun _ hk => hk.2) (.int .i64 ((rd_T46 t341 ((rd_T37 t344 x18_1).f0)).f4))) (fun _ hk => hk.2) (.int .i64 ((rd_T46 t341 ((rd_T37 t344 x18_1).f0)).f5))) (fun _ hk => hk.1.2)⟩
            have n1_ : Aside0 (Kd.V k37 37 ((((((w24.setCell ⟨gb355, 0, none⟩ (.int .i64 ((rd_T46 t341 ((rd_T37 t344 x18_1).f0)).f0))).setCell ⟨gb355, 1, none⟩ (.int .i64 ((rd_T46 t341 ((rd_T37 t344 x18_1).f0)).f1))).setCell ⟨gb355, 2, none⟩ (.int .i64 ((rd_T46 t341 ((rd_T37 t344 x18_1).f0)).f2))).setCell ⟨gb355, 3, none⟩ (.int .i64 ((rd_T46 t341 ((rd_T37 t344 x18_1).f0)).f3))).setCell ⟨gb355, 4, none⟩ (.int .i64 ((rd_T46 t341 ((rd_T37 t344 x18_1).f0)).f4))).setCell ⟨gb355, 5, none⟩ (.int .i64 ((rd_T46 t341 ((rd_T37 t344 x18_1).f0)).f5))) w.heap.size (fun k_ => k_ ≠ gb355) (.slice (some ad353) t344.length co18) t344) := ⟨Kd.V_mono (Kd.V_far (p := ⟨gb355, 5, none⟩) (Kd.V_far (p := ⟨gb355, 4, none⟩) (Kd.V_far (p := ⟨gb355, 3, none⟩) (Kd.V_far (p := ⟨gb355, 2, none⟩) (Kd.V_far (p := ⟨gb355, 1, none⟩) (Kd.V_far (p := ⟨gb355, 0, none⟩) (Kd.V_mono HO_13.out (fun k_ hk => (⟨hk, hk.2⟩ : _ ∧ k_ ≠ gb355))) (fun _ hk => hk.2) (.int .i64 ((rd_T46 t341 ((rd_T37 t344 x18_1).f0)).f0))) (fun _ hk => hk.2) (.int .i64 ((rd_T46 t341 ((rd_T37 t344 x18_1).f0)).f1))) (fun _ hk => hk.2) (.int .i64 ((rd_T46 t341 ((rd_T37 t344 x18_1).f0)).f2))) (fun _ hk => hk.2) (.int .i64 ((rd_T46 t341 ((rd_T37 t344 x18_1).f0)).f3))) (fun _ hk => hk.2) (.int .i64 ((rd_T46 t341 ((rd_T37 t344 x18_1).f0)).f4))) (fun _ hk => hk.2) (.int .i64 ((rd_T46 t341 ((rd_T37 t344 x18_1).f0)).f5))) (fun _ hk => hk.1.2)⟩
            have n2_ : Aside0 (Kd.V (Kd.int .i64) 3 ((((((w24.setCell ⟨gb355, 0, none⟩ (.int .i64 ((rd_T46 t341 ((rd_T37 t344 x18_1).f0)).f0))).setCell ⟨gb355, 1, none⟩ (.int .i64 ((rd_T46 t341 ((rd_T37 t344 x18_1).f0)).f1))).setCell ⟨gb355, 2, none⟩ (.int .i64 ((rd_T46 t341 ((rd_T37 t344 x18_1).f0)).f2))).setCell ⟨gb355, 3, none⟩ (.int .i64 ((rd_T46 t341 ((rd_T37 t344 x18_1).f0)).f3))).setCell ⟨gb355, 4, none⟩ (.int .i64 ((rd_T46 t341 ((rd_T37 t344 x18_1).f0)).f4))).setCell ⟨gb355, 5, none⟩ (.int .i64 ((rd_T46 t341 ((rd_T37 t344 x18_1).f0)).f5))) w.heap.size (fun k_ => k_ ≠ gb355) v350 t349) := ⟨Kd.V_mono (Kd.V_far (p := ⟨gb355, 5, none⟩) (Kd.V_far (p := ⟨gb355, 4, none⟩) (Kd.V_far (p := ⟨gb355, 3, none⟩) (Kd.V_far (p := ⟨gb355, 2, none⟩) (Kd.V_far (p := ⟨gb355, 1, none⟩) (Kd.V_far (p := ⟨gb355, 0, none⟩) (Kd.V_mono HO_15.out (fun k_ hk => (⟨hk, hk.2⟩ : _ ∧ k_ ≠ gb355))) (fun _ hk => hk.2) (.int .i64 ((rd_T46 t341 ((rd_T37 t344 x18_1).f0)).f0))) (fun _ hk => hk.2) (.int .i64 ((rd_T46 t341 ((rd_T37 t344 x18_1).f0)).f1))) (fun _ hk => hk.2) (.int .i64 ((rd_T46 t341 ((rd_T37 t344 x18_1).f0)).f2))) (fun _ hk => hk.2) (.int .i64 ((rd_T46 t341 ((rd_T37 t344 x18_1).f0)).f3))) (fun _ hk => hk.2) (.int .i64 ((rd_T46 t341 ((rd_T37 t344 x18_1).f0)).f4))) (fun _ hk => hk.2) (.int .i64 ((rd_T46 t341 ((rd_T37 t344 x18_1).f0)).f5))) (fun _ hk => hk.1.2)⟩
            have n3_ : Aside0 (((((((w24.setCell ⟨gb355, 0, none⟩ (.int .i64 ((rd_T46 t341 ((rd_T37 t344 x18_1).f0)).f0))).setCell ⟨gb355, 1, none⟩ (.int .i64 ((rd_T46 t341 ((rd_T37 t344 x18_1).f0)).f1))).setCell ⟨gb355, 2, none⟩ (.int .i64 ((rd_T46 t341 ((rd_T37 t344 x18_1).f0)).f2))).setCell ⟨gb355, 3, none⟩ (.int .i64 ((rd_T46 t341 ((rd_T37 t344 x18_1).f0)).f3))).setCell ⟨gb355, 4, none⟩ (.int .i64 ((rd_T46 t341 ((rd_T37 t344 x18_1).f0)).f4))).setCell ⟨gb355, 5, none⟩ (.int .i64 ((rd_T46 t341 ((rd_T37 t344 x18_1).f0)).f5))).heap[gb355]? = some (.cells #[.int .i64 ((rd_T46 t341 ((rd_T37 t344 x18_1).f0)).f0), .int .i64 ((rd_T46 t341 ((rd_T37 t344 x18_1).f0)).f1), .int .i64 ((rd_T46 t341 ((rd_T37 t344 x18_1).f0)).f2), .int .i64 ((rd_T46 t341 ((rd_T37 t344 x18_1).f0)).f3), .int .i64 ((rd_T46 t341 ((rd_T37 t344 x18_1).f0)).f4), .int .i64 ((rd_T46 t341 ((rd_T37 t344 x18_1).f0)).f5)] 46 (0, 0))) := ⟨blk_put (cs := #[.int .i64 ((rd_T46 t341 ((rd_T37 t344 x18_1).f0)).f0), .int .i64 ((rd_T46 t341 ((rd_T37 t344 x18_1).f0)).f1), .int .i64 ((rd_T46 t341 ((rd_T37 t344 x18_1).f0)).f2), .int .i64 ((rd_T46 t341 ((rd_T37 t344 x18_1).f0)).f3), .int .i64 ((rd_T46 t341 ((rd_T37 t344 x18_1).f0)).f4), .int .i64 0]) (blk_put (cs := #[.int .i64 ((rd_T46 t341 ((rd_T37 t344 x18_1).f0)).f0), .int .i64 ((rd_T46 t341 ((rd_T37 t344 x18_1).f0)).f1), .int .i64 ((rd_T46 t341 ((rd_T37 t344 x18_1).f0)).f2), .int .i64 ((rd_T46 t341 ((rd_T37 t344 x18_1).f0)).f3), .int .i64 0, .int .i64 0]) (blk_put (cs := #[.int .i64 ((rd_T46 t341 ((rd_T37 t344 x18_1).f0)).f0), .int .i64 ((rd_T46 t341 ((rd_T37 t344 x18_1).f0)).f1), .int .i64 ((rd_T46 t341 ((rd_T37 t344 x18_1).f0)).f2), .int .i64 0, .int .i64 0, .int .i64 0]) (blk_put (cs := #[.int .i64 ((rd_T46 t341 ((rd_T37 t344 x18_1).f0)).f0), .int .i64 ((rd_T46 t341 ((rd_T37 t344 x18_1).f0)).f1), .int .i64 0, .int .i64 0, .int .i64 0, .int .i64 0]) (blk_put (cs := #[.int .i64 ((rd_T46 t341 ((rd_T37 t344 x18_1).f0)).f0), .int .i64 0, .int .i64 0, .int .i64 0, .int .i64 0, .int .i64 0]) (blk_put (cs := #[.int .i64 0, .int .i64 0, .int .i64 0, .int .i64 0, .int .i64 0, .int .i64 0]) (BK355.out) 0 _ rfl) 1 _ rfl) 2 _ rfl) 3 _ rfl) 4 _ rfl) 5 _ rfl⟩
            have n4_ : Aside0 (Below w.heap.size w ((((((w24.setCell ⟨gb355, 0, none⟩ (.int .i64 ((rd_T46 t341 ((rd_T37 t344 x18_1).f0)).f0))).setCell ⟨gb355, 1, none⟩ (.int .i64 ((rd_T46 t341 ((rd_T37 t344 x18_1).f0)).f1))).setCell ⟨gb355, 2, none⟩ (.int .i64 ((rd_T46 t341 ((rd_T37 t344 x18_1).f0)).f2))).setCell ⟨gb355, 3, none⟩ (.int .i64 ((rd_T46 t341 ((rd_T37 t344 x18_1).f0)).f3))).setCell ⟨gb355, 4, none⟩ (.int .i64 ((rd_T46 t341 ((rd_T37 t344 x18_1).f0)).f4))).setCell ⟨gb355, 5, none⟩ (.int .i64 ((rd_T46 t341 ((rd_T37 t344 x18_1).f0)).f5)))) := ⟨below_set (below_set (below_set (below_set (below_set (below_set (HB.out) GE355.out) GE355.out) GE355.out) GE355.out) GE355.out) GE355.out⟩
            (try clear hcz25_0 hcz25_1 hcz25_2 hcz25_3 hcz25_4 hcz25_5 hfz25_0 hfz25_1 hfz25_2 hfz25_3 hfz25_4 hfz25_5)
            (try clear hx354_0 hx354_1 hx354_2 hx354_3 hx354_4 hx354_5)
            (try clear hx353_0 hx353_1)
            clear HO_12; clear HO_13; clear HO_15; clear BK355; clear HB
            generalize ((((((w24.setCell ⟨gb355, 0, none⟩ (.int .i64 ((rd_T46 t341 ((rd_T37 t344 x18_1).f0)).f0))).setCell ⟨gb355, 1, none⟩ (.int .i64 ((rd_T46 t341 ((rd_T37 t344 x18_1).f0)).f1))).setCell ⟨gb355, 2, none⟩ (.int .i64 ((rd_T46 t341 ((rd_T37 t344 x18_1).f0)).f2))).setCell ⟨gb355, 3, none⟩ (.int .i64 ((rd_T46 t341 ((rd_T37 t344 x18_1).f0)).f3))).setCell ⟨gb355, 4, none⟩ (.int .i64 ((rd_T46 t341 ((rd_T37 t344 x18_1).f0)).f4))).setCell ⟨gb355, 5, none⟩ (.int .i64 ((rd_T46 t341 ((rd_T37 t344 x18_1).f0)).f5))) = wX at n0_ n1_ n2_ n3_ n4_ ⊢
            have HO_12 := n0_
            have HO_13 := n1_
            have HO_15 := n2_
            have BK355 := n3_
            have HB := n4_
            clear n0_; clear n1_; clear n2_; clear n3_; clear n4_
            have H := HC23.out
            clear HC23
            by_cases c26 : 0 ≤ x18_1
            ·rw [if_pos c26] at H
             have c26b0 : decide (0 ≤ x18_1) = true := decide_eq_true c26
             by_cases c27 : x18_1 < (t344.length : Int)
             ·rw [if_pos c27] at H
              have c27b0 : decide (x18_1 < (t344.length : Int)) = true := decide_eq_true c27
              obtain ⟨ad356, e356, hx356_0, hx356_1⟩ := at_T37 (Kd.V_reads' HO_13.out).2.2 x18_1 c26 c27
              obtain rfl : ad353 = ad356 := (by injection e356)
              clear hx356_0
              replace c26 := eq_true c26
              replace c27 := eq_true c27
              have hb1 : wX.cell? ⟨gb355, 1, none⟩ = some (.int .i64 ((rd_T46 t341 ((rd_T37 t344 x18_1).f0)).f1)) := (blk_cell BK355.out 1).trans rfl
              have hb2 : wX.cell? ⟨gb355, 2, none⟩ = some (.int .i64 ((rd_T46 t341 ((rd_T37 t344 x18_1).f0)).f2)) := (blk_cell BK355.out 2).trans rfl
              have hb3 : wX.cell? ⟨gb355, 3, none⟩ = some (.int .i64 ((rd_T46 t341 ((rd_T37 t344 x18_1).f0)).f3)) := (blk_cell BK355.out 3).trans rfl
              by_cases c28 : ((rd_T37 t344 x18_1).f1) < 1
              ·rw [if_pos c28] at H
               have c28b0 : decide (((rd_T37 t344 x18_1).f1) < 1) = true := decide_eq_true c28
               clear c28
               have H' := Aside0.mk H
               clear H
               go_wp2
               repeat (go_quiet (fail); try go_wp2)
               go_meet
               case rel => exact ⟨_, true, ez, H', ⟨by have := HK1.out; have := HJ16.out; first | omega | exact Nat.le_refl _⟩, ⟨(mV HO_12.out)⟩, ⟨(mV HO_13.out)⟩, ⟨(mV HO_15.out)⟩, ⟨by (with_reducible repeat (first | refine blk_drewN ?_ _ | refine blk_drew ?_)); exact BK355.out⟩, ⟨by repeat (first | (with_reducible first | exact HB.out | apply pw_below_drewN | apply below_drew1) | exact HB.out)⟩⟩
              ·rw [if_neg c28] at H
               have c28b0 : decide (((rd_T37 t344 x18_1).f1) < 1) = false := decide_eq_false c28
               clear c28
               by_cases c29 : ((rd_T37 t344 x18_1).f1) > ((rd_T46 t341 ((rd_T37 t344 x18_1).f0)).f3)
               ·rw [if_pos c29] at H
                have c29b0 : decide (((rd_T46 t341 ((rd_T37 t344 x18_1).f0)).f3) < ((rd_T37 t344 x18_1).f1)) = true := decide_eq_true c29
                clear c29
                have H' := Aside0.mk H
                clear H
                go_wp2
                repeat (go_quiet (fail); try go_wp2)
                go_meet
                case rel => exact ⟨_, true, ez, H', ⟨by have := HK1.out; have := HJ16.out; first | omega | exact Nat.le_refl _⟩, ⟨(mV HO_12.out)⟩, ⟨(mV HO_13.out)⟩, ⟨(mV HO_15.out)⟩, ⟨by (with_reducible repeat (first | refine blk_drewN ?_ _ | refine blk_drew ?_)); exact BK355.out⟩, ⟨by repeat (first | (with_reducible first | exact HB.out | apply pw_below_drewN | apply below_drew1) | exact HB.out)⟩⟩
               ·rw [if_neg c29] at H
                have c29b0 : decide (((rd_T46 t341 ((rd_T37 t344 x18_1).f0)).f3) < ((rd_T37 t344 x18_1).f1)) = false := decide_eq_false c29
                clear c29
                by_cases c31 : ((rd_T46 t341 ((rd_T37 t344 x18_1).f0)).f1) > a4
                ·rw [if_pos c31] at H
                 have c31b0 : decide (a4 < ((rd_T46 t341 ((rd_T37 t344 x18_1).f0)).f1)) = true := decide_eq_true c31
                 clear c31
                 have H' := Aside0.mk H
                 clear H
                 go_wp2
                 repeat (go_quiet (fail); try go_wp2)
                 go_meet
                 case rel => exact ⟨_, true, ez, H', ⟨by have := HK1.out; have := HJ16.out; first | omega | exact Nat.le_refl _⟩, ⟨(mV HO_12.out)⟩, ⟨(mV HO_13.out)⟩, ⟨(mV HO_15.out)⟩, ⟨by (with_reducible repeat (first | refine blk_drewN ?_ _ | refine blk_drew ?_)); exact BK355.out⟩, ⟨by repeat (first | (with_reducible first | exact HB.out | apply pw_below_drewN | apply below_drew1) | exact HB.out)⟩⟩
                ·rw [if_neg c31] at H
                 have c31b0 : decide (a4 < ((rd_T46 t341 ((rd_T37 t344 x18_1).f0)).f1)) = false := decide_eq_false c31
                 clear c31
                 by_cases c33 : ((rd_T46 t341 ((rd_T37 t344 x18_1).f0)).f2) ≤ a4
                 ·rw [if_pos c33] at H
                  have c33b0 : decide (((rd_T46 t341 ((rd_T37 t344 x18_1).f0)).f2) ≤ a4) = true := decide_eq_true c33
                  clear c33
                  have H' := Aside0.mk H
                  clear H
                  go_wp2
                  repeat (go_quiet (fail); try go_wp2)
                  go_meet
                  case rel => exact ⟨_, true, ez, H', ⟨by have := HK1.out; have := HJ16.out; first | omega | exact Nat.le_refl _⟩, ⟨(mV HO_12.out)⟩, ⟨(mV HO_13.out)⟩, ⟨(mV HO_15.out)⟩, ⟨by (with_reducible repeat (first | refine blk_drewN ?_ _ | refine blk_drew ?_)); exact BK355.out⟩, ⟨by repeat (first | (with_reducible first | exact HB.out | apply pw_below_drewN | apply below_drew1) | exact HB.out)⟩⟩
                 ·rw [if_neg c33] at H
                  have c33b0 : decide (((rd_T46 t341 ((rd_T37 t344 x18_1).f0)).f2) ≤ a4) = false := decide_eq_false c33
                  clear c33
                  by_cases c35 : (wrap64 (x18_1 + 1)) < (t344.length : Int)
                  ·rw [if_pos c35] at H
                   have c35b0 : decide ((wrap64 (x18_1 + 1)) < (t344.length : Int)) = true := decide_eq_true c35
                   clear c35
                   have H' := Aside0.mk H
                   clear H
                   go_wp2
                   repeat (go_quiet (fail); try go_wp2)
                   go_meet
                   case rel => exact ⟨_, (((rd_T37 t344 x18_1).f1) != ((rd_T46 t341 ((rd_T37 t344 x18_1).f0)).f3)), ez, H', ⟨by have := HK1.out; have := HJ16.out; first | omega | exact Nat.le_refl _⟩, ⟨(mV HO_12.out)⟩, ⟨(mV HO_13.out)⟩, ⟨(mV HO_15.out)⟩, ⟨by (with_reducible repeat (first | refine blk_drewN ?_ _ | refine blk_drew ?_)); exact BK355.out⟩, ⟨by repeat (first | (with_reducible first | exact HB.out | apply pw_below_drewN | apply below_drew1) | exact HB.out)⟩⟩
                  ·rw [if_neg c35] at H
                   have c35b0 : decide ((wrap64 (x18_1 + 1)) < (t344.length : Int)) = false := decide_eq_false c35
                   clear c35
                   have H' := Aside0.mk H
                   clear H
                   go_wp2
                   repeat (go_quiet (fail); try go_wp2)
                   go_meet
                   case rel => exact ⟨_, false, ez, H', ⟨by have := HK1.out; have := HJ16.out; first | omega | exact Nat.le_refl _⟩, ⟨(mV HO_12.out)⟩, ⟨(mV HO_13.out)⟩, ⟨(mV HO_15.out)⟩, ⟨by (with_reducible repeat (first | refine blk_drewN ?_ _ | refine blk_drew ?_)); exact BK355.out⟩, ⟨by repeat (first | (with_reducible first | exact HB.out | apply pw_below_drewN | apply below_drew1) | exact HB.out)⟩⟩
             ·rw [if_neg c27] at H
              exact absurd H (by simp)
            ·rw [if_neg c26] at H
             exact absurd H (by simp)
           case rest =>
            clear HC23
            (try clear c1); (try clear c2); (try clear p2); (try clear c3); (try clear p3); (try clear q3); (try clear hx3); (try clear c5); (try clear p6); (try clear c8); (try clear c8b0); (try clear c8b1); (try clear c15); (try clear c15b0); (try clear c16); (try clear c16b0); (try clear c19); (try clear c19b0); (try clear c20); (try clear c21); (try clear c21b0); (try clear c22); (try clear c22b0); (try clear c26); (try clear c26b0); (try clear c27); (try clear c27b0); (try clear c28); (try clear c28b0); (try clear c29); (try clear c29b0); (try clear c31); (try clear c31b0); (try clear c33); (try clear c33b0); (try clear c35); (try clear c35b0); (try clear p35); (try clear q35); (try clear hx35); (try clear hcz25_0); (try clear hcz25_1); (try clear hcz25_2); (try clear hcz25_3); (try clear hcz25_4); (try clear hcz25_5); (try clear hcz30_0); (try clear hcz30_1); (try clear hcz30_2); (try clear hcz30_3); (try clear hcz30_4); (try clear hcz30_5); (try clear hcz32_0); (try clear hcz32_1); (try clear hcz32_2); (try clear hcz32_3); (try clear hcz32_4); (try clear hcz32_5); (try clear hcz34_0); (try clear hcz34_1); (try clear hcz34_2); (try clear hcz34_3); (try clear hcz34_4); (try clear hcz34_5); (try clear hcz36_0); (try clear hcz36_1); (try clear hcz36_2); (try clear hcz36_3); (try clear hcz36_4); (try clear hcz36_5); (try clear hcz37_0); (try clear hcz37_1); (try clear hcz37_2); (try clear hcz37_3); (try clear hcz37_4); (try clear hcz37_5); (try clear hfz25_0); (try clear hfz25_1); (try clear hfz25_2); (try clear hfz25_3); (try clear hfz25_4); (try clear hfz25_5); (try clear hfz30_0); (try clear hfz30_1); (try clear hfz30_2); (try clear hfz30_3); (try clear hfz30_4); (try clear hfz30_5); (try clear hfz32_0); (try clear hfz32_1); (try clear hfz32_2); (try clear hfz32_3); (try clear hfz32_4); (try clear hfz32_5); (try clear hfz34_0); (try clear hfz34_1); (try clear hfz34_2); (try clear hfz34_3); (try clear hfz34_4); (try clear hfz34_5); (try clear hfz36_0); (try clear hfz36_1); (try clear hfz36_2); (try clear hfz36_3); (try clear hfz36_4); (try clear hfz36_5); (try clear hfz37_0); (try clear hfz37_1); (try clear hfz37_2); (try clear hfz37_3); (try clear hfz37_4); (try clear hfz37_5); (try clear hx353_0); (try clear hx353_1); (try clear hx354_0); (try clear hx354_1); (try clear hx354_2); (try clear hx354_3); (try clear hx354_4); (try clear hx354_5); (try clear hx356_0); (try clear hx356_1); (try clear hx357_0); (try clear hx357_1); (try clear hx358_0); (try clear hx358_1); (try clear p2); (try clear p3); (try clear p353); (try clear p354); (try clear p356); (try clear p357); (try clear p358); (try clear q3); (try clear q353); (try clear q354); (try clear q356); (try clear q357); (try clear q358)
            obtain ⟨kq, x116_22, rfl, HA, HJ22, HO_12, HO_13, HO_15, BK355, HB⟩ := hcut
            cases kq with
            | zero => exact absurd HA.out (by simp [prebendlaw11_DrawTakes.j2])
            | succ kj22 =>
             have H := HA.out
             clear HA
             simp only [prebendlaw11_DrawTakes.j2] at H
             by_cases c38 : x116_22 = true
             ·subst c38
              have H1 : (some false) = some r := by rw [if_pos rfl] at H; exact H
              clear H
              have H := H1
              clear H1
              obtain rfl := Option.some.inj H
              go_wp2
              repeat (go_quiet (fail); try go_wp2)
              go_ret
              exact ⟨by first | rfl | (simp [errW_none, errW_some] <;> rfl) | (simp [*, errW_none, errW_some] <;> rfl), by repeat (first | (with_reducible first | exact HB.out | apply below_alloc | apply pw_below_drewN | apply below_drew1 | refine below_set ?_ GE355.out) | exact HB.out)⟩
             ·replace c38 := Bool.eq_false_iff.mpr c38
              subst c38
              have H1 : (prebendlaw11_DrawTakes.l1 kj22 a4 t341 t344 t349 x16_1 x17_1 x18_1 ((rd_T37 t344 x18_1).f0) ((rd_T46 t341 ((rd_T37 t344 x18_1).f0)).f0) ((rd_T46 t341 ((rd_T37 t344 x18_1).f0)).f1) ((rd_T46 t341 ((rd_T37 t344 x18_1).f0)).f2) ((rd_T46 t341 ((rd_T37 t344 x18_1).f0)).f3) ((rd_T46 t341 ((rd_T37 t344 x18_1).f0)).f4) ((rd_T46 t341 ((rd_T37 t344 x18_1).f0)).f5)) = some r := by rw [if_neg (show ¬ (false = true) by decide)] at H; exact H
              clear H
              have H := H1
              clear H1
              have HC39 := Aside0.mk H
              clear H
              go_upto_block 2 with (fail)
              repeat (go_quiet (fail); go_upto_block 2 with (fail))
              go_cut [17] (fun v17 wc => ∃ (kq : Nat) (x17_38 : Int), v17 = .int .i64 x17_38 ∧ Aside0 (prebendlaw11_DrawTakes.j4 kq a4 t341 t344 t349 x16_1 x17_38 x18_1 ((rd_T37 t344 x18_1).f0) ((rd_T46 t341 ((rd_T37 t344 x18_1).f0)).f0) ((rd_T46 t341 ((rd_T37 t344 x18_1).f0)).f1) ((rd_T46 t341 ((rd_T37 t344 x18_1).f0)).f2) ((rd_T46 t341 ((rd_T37 t344 x18_1).f0)).f3) ((rd_T46 t341 ((rd_T37 t344 x18_1).f0)).f4) ((rd_T46 t341 ((rd_T37 t344 x18_1).f0)).f5) = some r) ∧ Aside0 (kq ≤ kj22) ∧ Aside0 (Kd.V k46 46 wc w.heap.size (fun k_ => k_ ≠ gb355) (.slice (some ad354) t341.length co12) t341) ∧ Aside0 (Kd.V k37 37 wc w.heap.size (fun k_ => k_ ≠ gb355) (.slice (some ad353) t344.length co18) t344) ∧ Aside0 (Kd.V (Kd.int .i64) 3 wc w.heap.size (fun k_ => k_ ≠ gb355) v350 t349) ∧ Aside0 (wc.heap[gb355]? = some (.cells #[.int .i64 ((rd_T46 t341 ((rd_T37 t344 x18_1).f0)).f0), .int .i64 ((rd_T46 t341 ((rd_T37 t344 x18_1).f0)).f1), .int .i64 ((rd_T46 t341 ((rd_T37 t344 x18_1).f0)).f2), .int .i64 ((rd_T46 t341 ((rd_T37 t344 x18_1).f0)).f3), .int .i64 ((rd_T46 t341 ((rd_T37 t344 x18_1).f0)).f4), .int .i64 ((rd_T46 t341 ((rd_T37 t344 x18_1).f0)).f5)] 46 (0, 0))) ∧ Aside0 (Below w.heap.size w wc))
              case first =>
               have H := HC39.out
               clear HC39
               have H' := Aside0.mk H
               clear H
               go_wp2
               repeat (go_quiet (fail); try go_wp2)
               go_loopg [17] kj22 (fun kq v17 w' => ∃ (x17_4 : Int), v17 = .int .i64 x17_4 ∧ Aside0 (prebendlaw11_DrawTakes.l1 kq a4 t341 t344 t349 x16_1 x17_4 x18_1 ((rd_T37 t344 x18_1).f0) ((rd_T46 t341 ((rd_T37 t344 x18_1).f0)).f0) ((rd_T46 t341 ((rd_T37 t344 x18_1).f0)).f1) ((rd_T46 t341 ((rd_T37 t344 x18_1).f0)).f2) ((rd_T46 t341 ((rd_T37 t344 x18_1).f0)).f3) ((rd_T46 t341 ((rd_T37 t344 x18_1).f0)).f4) ((rd_T46 t341 ((rd_T37 t344 x18_1).f0)).f5) = some r) ∧ Aside0 (kq ≤ kj22) ∧ Aside0 (Kd.V k46 46 w' w.heap.size (fun k_ => k_ ≠ gb355) (.slice (some ad354) t341.length co12) t341) ∧ Aside0 (Kd.V k37 37 w' w.heap.size (fun k_ => k_ ≠ gb355) (.slice (some ad353) t344.length co18) t344) ∧ Aside0 (Kd.V (Kd.int .i64) 3 w' w.heap.size (fun k_ => k_ ≠ gb355) v350 t349) ∧ Aside0 (w'.heap[gb355]? = some (.cells #[.int .i64 ((rd_T46 t341 ((rd_T37 t344 x18_1).f0)).f0), .int .i64 ((rd_T46 t341 ((rd_T37 t344 x18_1).f0)).f1), .int .i64 ((rd_T46 t341 ((rd_T37 t344 x18_1).f0)).f2), .int .i64 ((rd_T46 t341 ((rd_T37 t344 x18_1).f0)).f3), .int .i64 ((rd_T46 t341 ((rd_T37 t344 x18_1).f0)).f4), .int .i64 ((rd_T46 t341 ((rd_T37 t344 x18_1).f0)).f5)] 46 (0, 0))) ∧ Aside0 (Below w.heap.size w w'))
               case atStart => exact ⟨(x17_1), ez, H', ⟨Nat.le_refl _⟩, ⟨mV HO_12.out⟩, ⟨mV HO_13.out⟩, ⟨mV HO_15.out⟩, ⟨mBK BK355.out⟩, ⟨mBs HB.out⟩⟩
               case round =>
                clear H'
                (try clear c1); (try clear c2); (try clear p2); (try clear c3); (try clear p3); (try clear q3); (try clear hx3); (try clear c5); (try clear p6); (try clear c8); (try clear c8b0); (try clear c8b1); (try clear c15); (try clear c15b0); (try clear c16); (try clear c16b0); (try clear c19); (try clear c19b0); (try clear c20); (try clear c21); (try clear c21b0); (try clear c22); (try clear c22b0); (try clear c26); (try clear c26b0); (try clear c27); (try clear c27b0); (try clear c28); (try clear c28b0); (try clear c29); (try clear c29b0); (try clear c31); (try clear c31b0); (try clear c33); (try clear c33b0); (try clear c35); (try clear c35b0); (try clear p35); (try clear q35); (try clear hx35); (try clear c38); (try clear hcz25_0); (try clear hcz25_1); (try clear hcz25_2); (try clear hcz25_3); (try clear hcz25_4); (try clear hcz25_5); (try clear hcz30_0); (try clear hcz30_1); (try clear hcz30_2); (try clear hcz30_3); (try clear hcz30_4); (try clear hcz30_5); (try clear hcz32_0); (try clear hcz32_1); (try clear hcz32_2); (try clear hcz32_3); (try clear hcz32_4); (try clear hcz32_5); (try clear hcz34_0); (try clear hcz34_1); (try clear hcz34_2); (try clear hcz34_3); (try clear hcz34_4); (try clear hcz34_5); (try clear hcz36_0); (try clear hcz36_1); (try clear hcz36_2); (try clear hcz36_3); (try clear hcz36_4); (try clear hcz36_5); (try clear hcz37_0); (try clear hcz37_1); (try clear hcz37_2); (try clear hcz37_3); (try clear hcz37_4); (try clear hcz37_5); (try clear hfz25_0); (try clear hfz25_1); (try clear hfz25_2); (try clear hfz25_3); (try clear hfz25_4); (try clear hfz25_5); (try clear hfz30_0); (try clear hfz30_1); (try clear hfz30_2); (try clear hfz30_3); (try clear hfz30_4); (try clear hfz30_5); (try clear hfz32_0); (try clear hfz32_1); (try clear hfz32_2); (try clear hfz32_3); (try clear hfz32_4); (try clear hfz32_5); (try clear hfz34_0); (try clear hfz34_1); (try clear hfz34_2); (try clear hfz34_3); (try clear hfz34_4); (try clear hfz34_5); (try clear hfz36_0); (try clear hfz36_1); (try clear hfz36_2); (try clear hfz36_3); (try clear hfz36_4); (try clear hfz36_5); (try clear hfz37_0); (try clear hfz37_1); (try clear hfz37_2); (try clear hfz37_3); (try clear hfz37_4); (try clear hfz37_5); (try clear hx353_0); (try clear hx353_1); (try clear hx354_0); (try clear hx354_1); (try clear hx354_2); (try clear hx354_3); (try clear hx354_4); (try clear hx354_5); (try clear hx356_0); (try clear hx356_1); (try clear hx357_0); (try clear hx357_1); (try clear hx358_0); (try clear hx358_1); (try clear p2); (try clear p3); (try clear p35); (try clear p353); (try clear p354); (try clear p356); (try clear p357); (try clear p358); (try clear p6); (try clear q3); (try clear q35); (try clear q353); (try clear q354); (try clear q356); (try clear q357); (try clear q358)
                obtain ⟨x17_4, rfl, HA, HK4, HO_12, HO_13, HO_15, BK355, HB⟩ := hrel
                cases gk with
                | zero => exact absurd HA.out (by simp [prebendlaw11_DrawTakes.l1])
                | succ k4 =>
                 have H := HA.out
                 clear HA
                 simp only [prebendlaw11_DrawTakes.l1] at H
                 by_cases c40 : x17_4 < (t349.length : Int)
                 ·rw [if_pos c40] at H
                  have c40b0 : decide (x17_4 < (t349.length : Int)) = true := decide_eq_true c40
                  clear c40
                  (first | rw [c40b0] | (simp only [i64_w, i32_w]; rw [c40b0]) | skip)
                  by_cases c41 : 0 ≤ x17_4
                  ·rw [if_pos c41] at H
                   have c41b0 : decide (0 ≤ x17_4) = true := decide_eq_true c41
                   clear c41
                   by_cases c42 : (rd t349 x17_4) = ((rd_T46 t341 ((rd_T37 t344 x18_1).f0)).f0)
                   ·rw [if_pos c42] at H
                    have c42b0 : ((rd t349 x17_4) == ((rd_T46 t341 ((rd_T37 t344 x18_1).f0)).f0)) = true := beq_iff_eq.mpr c42
                    have c42b1 : ((rd t349 x17_4) != ((rd_T46 t341 ((rd_T37 t344 x18_1).f0)).f0)) = false := bne_eq_false_iff_eq.mpr c42
                    clear c42
                    have H' := Aside0.mk H
                    clear H
                    obtain ⟨Ao43, co43, eo43⟩ := Kd.V_slice HO_15.out
                    subst eo43
                    have p359 : 0 ≤ (x17_4 : Int) := oda
                    have q359 : x17_4 < (t349.length : Int) := oda
                    obtain ⟨ad359, e359, hx359_0⟩ := Kd.at_int (Kd.V_reads' HO_15.out).2.2 x17_4 p359 q359
                    cases e359
                    replace p359 := eq_true p359
                    replace q359 := eq_true q359
                    have hcz44_0 : wr.cell? ⟨gb355, 0, none⟩ = some (.int .i64 ((rd_T46 t341 ((rd_T37 t344 x18_1).f0)).f0)) := (blk_cell BK355.out 0).trans rfl
                    have hcz44_1 : wr.cell? ⟨gb355, 1, none⟩ = some (.int .i64 ((rd_T46 t341 ((rd_T37 t344 x18_1).f0)).f1)) := (blk_cell BK355.out 1).trans rfl
                    have hcz44_2 : wr.cell? ⟨gb355, 2, none⟩ = some (.int .i64 ((rd_T46 t341 ((rd_T37 t344 x18_1).f0)).f2)) := (blk_cell BK355.out 2).trans rfl
                    have hcz44_3 : wr.cell? ⟨gb355, 3, none⟩ = some (.int .i64 ((rd_T46 t341 ((rd_T37 t344 x18_1).f0)).f3)) := (blk_cell BK355.out 3).trans rfl
                    have hcz44_4 : wr.cell? ⟨gb355, 4, none⟩ = some (.int .i64 ((rd_T46 t341 ((rd_T37 t344 x18_1).f0)).f4)) := (blk_cell BK355.out 4).trans rfl
                    have hcz44_5 : wr.cell? ⟨gb355, 5, none⟩ = some (.int .i64 ((rd_T46 t341 ((rd_T37 t344 x18_1).f0)).f5)) := (blk_cell BK355.out 5).trans rfl
                    have hfz44_0 := blk_frozen BK355.out 0
                    have hfz44_1 := blk_frozen BK355.out 1
                    have hfz44_2 := blk_frozen BK355.out 2
                    have hfz44_3 := blk_frozen BK355.out 3
                    have hfz44_4 := blk_frozen BK355.out 4
                    have hfz44_5 := blk_frozen BK355.out 5
                    go_wp2
                    repeat (go_quiet (fail); try go_wp2)
                    go_meet
                    case rel => exact ⟨_, (x17_4), ez, H', ⟨by have := HK1.out; have := HJ16.out; have := HJ22.out; have := HK4.out; first | omega | exact Nat.le_refl _⟩, ⟨mV HO_12.out⟩, ⟨mV HO_13.out⟩, ⟨mV HO_15.out⟩, ⟨mBK BK355.out⟩, ⟨mBs HB.out⟩⟩
                   ·rw [if_neg c42] at H
                    have c42b0 : ((rd t349 x17_4) == ((rd_T46 t341 ((rd_T37 t344 x18_1).f0)).f0)) = false := beq_eq_false_iff_ne.mpr c42
                    have c42b1 : ((rd t349 x17_4) != ((rd_T46 t341 ((rd_T37 t344 x18_1).f0)).f0)) = true := bne_iff_ne.mpr c42
                    have H' := Aside0.mk H
                    clear H
                    obtain ⟨Ao45, co45, eo45⟩ := Kd.V_slice HO_15.out
                    subst eo45
                    have p359 : 0 ≤ (x17_4 : Int) := oda
                    have q359 : x17_4 < (t349.length : Int) := oda
                    obtain ⟨ad359, e359, hx359_0⟩ := Kd.at_int (Kd.V_reads' HO_15.out).2.2 x17_4 p359 q359
                    cases e359
                    replace p359 := eq_true p359
                    replace q359 := eq_true q359
                    have hcz46_0 : wr.cell? ⟨gb355, 0, none⟩ = some (.int .i64 ((rd_T46 t341 ((rd_T37 t344 x18_1).f0)).f0)) := (blk_cell BK355.out 0).trans rfl
                    have hcz46_1 : wr.cell? ⟨gb355, 1, none⟩ = some (.int .i64 ((rd_T46 t341 ((rd_T37 t344 x18_1).f0)).f1)) := (blk_cell BK355.out 1).trans rfl
                    have hcz46_2 : wr.cell? ⟨gb355, 2, none⟩ = some (.int .i64 ((rd_T46 t341 ((rd_T37 t344 x18_1).f0)).f2)) := (blk_cell BK355.out 2).trans rfl
                    have hcz46_3 : wr.cell? ⟨gb355, 3, none⟩ = some (.int .i64 ((rd_T46 t341 ((rd_T37 t344 x18_1).f0)).f3)) := (blk_cell BK355.out 3).trans rfl
                    have hcz46_4 : wr.cell? ⟨gb355, 4, none⟩ = some (.int .i64 ((rd_T46 t341 ((rd_T37 t344 x18_1).f0)).f4)) := (blk_cell BK355.out 4).trans rfl
                    have hcz46_5 : wr.cell? ⟨gb355, 5, none⟩ = some (.int .i64 ((rd_T46 t341 ((rd_T37 t344 x18_1).f0)).f5)) := (blk_cell BK355.out 5).trans rfl
                    have hfz46_0 := blk_frozen BK355.out 0
                    have hfz46_1 := blk_frozen BK355.out 1
                    have hfz46_2 := blk_frozen BK355.out 2
                    have hfz46_3 := blk_frozen BK355.out 3
                    have hfz46_4 := blk_frozen BK355.out 4
                    have hfz46_5 := blk_frozen BK355.out 5
                    go_wp2
                    repeat (go_quiet (fail); try go_wp2)
                    go_roundg k4
                    case measure => have := HK1.out; have := HJ16.out; have := HJ22.out; have := HK4.out; omega
                    case rel => exact ⟨(wrap64 (x17_4 + 1)), ez, H', ⟨by have := HK1.out; have := HJ16.out; have := HJ22.out; have := HK4.out; omega⟩, ⟨mV HO_12.out⟩, ⟨mV HO_13.out⟩, ⟨mV HO_15.out⟩, ⟨mBK BK355.out⟩, ⟨mBs HB.out⟩⟩
                  ·rw [if_neg c41] at H
                   exact absurd H (by simp)
                 ·rw [if_neg c40] at H
                  have c40b0 : decide (x17_4 < (t349.length : Int)) = false := decide_eq_false c40
                  clear c40
                  (first | rw [c40b0] | (simp only [i64_w, i32_w]; rw [c40b0]) | skip)
                  have H' := Aside0.mk H
                  clear H
                  obtain ⟨Ao47, co47, eo47⟩ := Kd.V_slice HO_15.out
                  subst eo47
                  go_wp2
                  repeat (go_quiet (fail); try go_wp2)
                  go_meet
                  case rel => exact ⟨_, (x17_4), ez, H', ⟨by have := HK1.out; have := HJ16.out; have := HJ22.out; have := HK4.out; first | omega | exact Nat.le_refl _⟩, ⟨mV HO_12.out⟩, ⟨mV HO_13.out⟩, ⟨mV HO_15.out⟩, ⟨mBK BK355.out⟩, ⟨mBs HB.out⟩⟩
              case rest =>
               clear HC39
               (try clear c1); (try clear c2); (try clear p2); (try clear c3); (try clear p3); (try clear q3); (try clear hx3); (try clear c4); (try clear c5); (try clear p6); (try clear c8); (try clear c8b0); (try clear c8b1); (try clear c15); (try clear c15b0); (try clear c16); (try clear c16b0); (try clear c19); (try clear c19b0); (try clear c20); (try clear c21); (try clear c21b0); (try clear c22); (try clear c22b0); (try clear c26); (try clear c26b0); (try clear c27); (try clear c27b0); (try clear c28); (try clear c28b0); (try clear c29); (try clear c29b0); (try clear c31); (try clear c31b0); (try clear c33); (try clear c33b0); (try clear c35); (try clear c35b0); (try clear p35); (try clear q35); (try clear hx35); (try clear c38); (try clear c40); (try clear c40b0); (try clear c41); (try clear c41b0); (try clear c42); (try clear c42b0); (try clear c42b1); (try clear hcz25_0); (try clear hcz25_1); (try clear hcz25_2); (try clear hcz25_3); (try clear hcz25_4); (try clear hcz25_5); (try clear hcz30_0); (try clear hcz30_1); (try clear hcz30_2); (try clear hcz30_3); (try clear hcz30_4); (try clear hcz30_5); (try clear hcz32_0); (try clear hcz32_1); (try clear hcz32_2); (try clear hcz32_3); (try clear hcz32_4); (try clear hcz32_5); (try clear hcz34_0); (try clear hcz34_1); (try clear hcz34_2); (try clear hcz34_3); (try clear hcz34_4); (try clear hcz34_5); (try clear hcz36_0); (try clear hcz36_1); (try clear hcz36_2); (try clear hcz36_3); (try clear hcz36_4); (try clear hcz36_5); (try clear hcz37_0); (try clear hcz37_1); (try clear hcz37_2); (try clear hcz37_3); (try clear hcz37_4); (try clear hcz37_5); (try clear hcz44_0); (try clear hcz44_1); (try clear hcz44_2); (try clear hcz44_3); (try clear hcz44_4); (try clear hcz44_5); (try clear hcz46_0); (try clear hcz46_1); (try clear hcz46_2); (try clear hcz46_3); (try clear hcz46_4); (try clear hcz46_5); (try clear hfz25_0); (try clear hfz25_1); (try clear hfz25_2); (try clear hfz25_3); (try clear hfz25_4); (try clear hfz25_5); (try clear hfz30_0); (try clear hfz30_1); (try clear hfz30_2); (try clear hfz30_3); (try clear hfz30_4); (try clear hfz30_5); (try clear hfz32_0); (try clear hfz32_1); (try clear hfz32_2); (try clear hfz32_3); (try clear hfz32_4); (try clear hfz32_5); (try clear hfz34_0); (try clear hfz34_1); (try clear hfz34_2); (try clear hfz34_3); (try clear hfz34_4); (try clear hfz34_5); (try clear hfz36_0); (try clear hfz36_1); (try clear hfz36_2); (try clear hfz36_3); (try clear hfz36_4); (try clear hfz36_5); (try clear hfz37_0); (try clear hfz37_1); (try clear hfz37_2); (try clear hfz37_3); (try clear hfz37_4); (try clear hfz37_5); (try clear hfz44_0); (try clear hfz44_1); (try clear hfz44_2); (try clear hfz44_3); (try clear hfz44_4); (try clear hfz44_5); (try clear hfz46_0); (try clear hfz46_1); (try clear hfz46_2); (try clear hfz46_3); (try clear hfz46_4); (try clear hfz46_5); (try clear hx353_0); (try clear hx353_1); (try clear hx354_0); (try clear hx354_1); (try clear hx354_2); (try clear hx354_3); (try clear hx354_4); (try clear hx354_5); (try clear hx356_0); (try clear hx356_1); (try clear hx357_0); (try clear hx357_1); (try clear hx358_0); (try clear hx358_1); (try clear hx359_0); (try clear p2); (try clear p3); (try clear p35); (try clear p353); (try clear p354); (try clear p356); (try clear p357); (try clear p358); (try clear p359); (try clear p6); (try clear q3); (try clear q35); (try clear q353); (try clear q354); (try clear q356); (try clear q357); (try clear q358); (try clear q359)
               obtain ⟨kq, x17_38, rfl, HA, HJ38, HO_12, HO_13, HO_15, BK355, HB⟩ := hcut
               cases kq with
               | zero => exact absurd HA.out (by simp [prebendlaw11_DrawTakes.j4])
               | succ kj38 =>
                have H := HA.out
                clear HA
                simp only [prebendlaw11_DrawTakes.j4] at H
                by_cases c48 : x17_38 = (t349.length : Int)
                ·rw [if_pos c48] at H
                 have c48b0 : (x17_38 == (t349.length : Int)) = true := beq_iff_eq.mpr c48
                 have c48b1 : (x17_38 != (t349.length : Int)) = false := bne_eq_false_iff_eq.mpr c48
                 clear c48
                 obtain rfl := Option.some.inj H
                 obtain ⟨Ao49, co49, eo49⟩ := Kd.V_slice HO_15.out
                 subst eo49
                 go_wp2
                 repeat (go_quiet (fail); try go_wp2)
                 go_ret
                 exact ⟨by first | rfl | (simp [errW_none, errW_some] <;> rfl) | (simp [*, errW_none, errW_some] <;> rfl), by repeat (first | (with_reducible first | exact HB.out | apply below_alloc | apply pw_below_drewN | apply below_drew1 | refine below_set ?_ GE355.out) | exact HB.out)⟩
                ·rw [if_neg c48] at H
                 have c48b0 : (x17_38 == (t349.length : Int)) = false := beq_eq_false_iff_ne.mpr c48
                 have c48b1 : (x17_38 != (t349.length : Int)) = true := bne_iff_ne.mpr c48
                 by_cases c50 : x18_1 > 0
                 ·rw [if_pos c50] at H
                  have c50b0 : decide (0 < x18_1) = true := decide_eq_true c50
                  clear c50
                  obtain ⟨ji51, hji51⟩ : ∃ j_ : Int, (wrap64 (x18_1 - 1)) = j_ := ⟨_, rfl⟩
                  replace H : (if 0 ≤ (ji51) then (if (ji51) < (t344.length : Int) then (if 0 ≤ ((rd_T37 t344 (ji51)).f0) then (if ((rd_T37 t344 (ji51)).f0) < (t341.length : Int) then (if ((rd_T46 t341 ((rd_T37 t344 (ji51)).f0)).f0) = ((rd_T46 t341 ((rd_T37 t344 x18_1).f0)).f0) then (if ((rd_T46 t341 ((rd_T37 t344 (ji51)).f0)).f2) > ((rd_T46 t341 ((rd_T37 t344 x18_1).f0)).f2) then (some false) else (if ((rd_T46 t341 ((rd_T37 t344 (ji51)).f0)).f2) = ((rd_T46 t341 ((rd_T37 t344 x18_1).f0)).f2) then (if ((rd_T37 t344 (ji51)).f0) ≥ ((rd_T37 t344 x18_1).f0) then (some false) else (if 0 ≤ x18_1 then (if x18_1 < (t344.length : Int) then (prebendlaw11_DrawTakes.l0 kj38 a4 t341 t344 t349 (wrap64 (x16_1 - ((rd_T37 t344 x18_1).f1))) x17_38 (wrap64 (x18_1 + 1))) else (none)) else (none))) else (if 0 ≤ x18_1 then (if x18_1 < (t344.length : Int) then (prebendlaw11_DrawTakes.l0 kj38 a4 t341 t344 t349 (wrap64 (x16_1 - ((rd_T37 t344 x18_1).f1))) x17_38 (wrap64 (x18_1 + 1))) else (none)) else (none)))) else (if 0 ≤ x18_1 then (if x18_1 < (t344.length : Int) then (prebendlaw11_DrawTakes.l0 kj38 a4 t341 t344 t349 (wrap64 (x16_1 - ((rd_T37 t344 x18_1).f1))) x17_38 (wrap64 (x18_1 + 1))) else (none)) else (none))) else (none)) else (none)) else (none)) else (none)) = some r := by first | (rw [hji51] at H; exact H) | (simp only [hji51] at H ⊢; exact H)
                  have hji51w : (IntKind.i64.wrap (x18_1 - 1)) = ji51 := (i64_w _).trans hji51
                  by_cases c52 : 0 ≤ (ji51)
                  ·rw [if_pos c52] at H
                   have c52b0 : decide (0 ≤ (ji51)) = true := decide_eq_true c52
                   clear c52
                   by_cases c53 : (ji51) < (t344.length : Int)
                   ·rw [if_pos c53] at H
                    have c53b0 : decide ((ji51) < (t344.length : Int)) = true := decide_eq_true c53
                    clear c53
                    by_cases c54 : 0 ≤ ((rd_T37 t344 (ji51)).f0)
                    ·rw [if_pos c54] at H
                     have c54b0 : decide (0 ≤ ((rd_T37 t344 (ji51)).f0)) = true := decide_eq_true c54
                     clear c54
                     by_cases c55 : ((rd_T37 t344 (ji51)).f0) < (t341.length : Int)
                     ·rw [if_pos c55] at H
                      have c55b0 : decide (((rd_T37 t344 (ji51)).f0) < (t341.length : Int)) = true := decide_eq_true c55
                      clear c55
                      have HH := Aside0.mk H
                      clear H
                      obtain ⟨Ao56, co56, eo56⟩ := Kd.V_slice HO_15.out
                      subst eo56
                      have p360 : 0 ≤ ((ji51) : Int) := oda
                      have q360 : (ji51) < (t344.length : Int) := oda
                      obtain ⟨ad360, e360, hx360_0, hx360_1⟩ := at_T37 (Kd.V_reads' HO_13.out).2.2 (ji51) p360 q360
                      obtain rfl : ad353 = ad360 := (by injection e360)
                      have p361 : 0 ≤ (((rd_T37 t344 (ji51)).f0) : Int) := oda
                      have q361 : ((rd_T37 t344 (ji51)).f0) < (t341.length : Int) := oda
                      obtain ⟨ad361, e361, hx361_0, hx361_1, hx361_2, hx361_3, hx361_4, hx361_5⟩ := at_T46 (Kd.V_reads' HO_12.out).2.2 ((rd_T37 t344 (ji51)).f0) p361 q361
                      obtain rfl : ad354 = ad361 := (by injection e361)
                      replace p360 := eq_true p360
                      replace q360 := eq_true q360
                      replace p361 := eq_true p361
                      replace q361 := eq_true q361
                      go_upto_region 22 with ((with_reducible refine gate_dst (N := 21) rfl ?_); (try (refine gate_guard (by rfl) ?_; dsimp only)); refine box_event ?hg (N := 21) ?hd (cs := #[.int .i64 0, .int .i64 0, .int .i64 0, .int .i64 0, .int .i64 0, .int .i64 0]) (t := 46) ?hr ?_; (case hd => rfl); (case hg => rfl); (case hr => first | (go_simp; done) | (go_simp; rfl)); intro gb362 hg w66 hbox hb; have n0_ := Aside0.mk (Kd.V_below (Kd.V_elderB HO_12.out gb362 (Nat.le_of_eq hg.symm)) hb); have n1_ := Aside0.mk (Kd.V_below (Kd.V_elderB HO_13.out gb362 (Nat.le_of_eq hg.symm)) hb); have n2_ := Aside0.mk (Kd.V_below (Kd.V_elderB HO_15.out gb362 (Nat.le_of_eq hg.symm)) hb); have n3_ := Aside0.mk (below_step HB.out hb); have n4_ := Aside0.mk hbox; have n5_ : Aside0 (w.heap.size ≤ gb362) := ⟨by rw [hg]; exact below_size HB.out⟩; have n6_ := Aside0.mk (blk_below BK355.out hb); have n7_ : Aside0 (gb355 ≠ gb362) := ⟨by rw [hg]; exact Nat.ne_of_lt (blk_lt BK355.out)⟩; clear HO_12 HO_13 HO_15 HB BK355; have HO_12 := n0_; have HO_13 := n1_; have HO_15 := n2_; have HB := n3_; have BK362 := n4_; have GE362 := n5_; have BK355 := n6_; have NB := n7_; clear n0_ n1_ n2_ n3_ n4_ n5_ n6_ n7_; clear hb hbox hg; have hcz_0 : w66.cell? ⟨gb362, 0, none⟩ = some (.int .i64 0) := (blk_cell BK362.out 0).trans rfl; have hfz_0 := blk_frozen BK362.out 0; have hcz_1 : w66.cell? ⟨gb362, 1, none⟩ = some (.int .i64 0) := (blk_cell BK362.out 1).trans rfl; have hfz_1 := blk_frozen BK362.out 1; have hcz_2 : w66.cell? ⟨gb362, 2, none⟩ = some (.int .i64 0) := (blk_cell BK362.out 2).trans rfl; have hfz_2 := blk_frozen BK362.out 2; have hcz_3 : w66.cell? ⟨gb362, 3, none⟩ = some (.int .i64 0) := (blk_cell BK362.out 3).trans rfl; have hfz_3 := blk_frozen BK362.out 3; have hcz_4 : w66.cell? ⟨gb362, 4, none⟩ = some (.int .i64 0) := (blk_cell BK362.out 4).trans rfl; have hfz_4 := blk_frozen BK362.out 4; have hcz_5 : w66.cell? ⟨gb362, 5, none⟩ = some (.int .i64 0) := (blk_cell BK362.out 5).trans rfl; have hfz_5 := blk_frozen BK362.out 5)
                      have n0_ : Aside0 (Kd.V k46 46 ((((((w66.setCell ⟨gb362, 0, none⟩ (.int .i64 ((rd_T46 t341 ((rd_T37 t344 (ji51)).f0)).f0))).setCell ⟨gb362, 1, none⟩ (.int .i64 ((rd_T46 t341 ((rd_T37 t344 (ji51)).f0)).f1))).setCell ⟨gb362, 2, none⟩ (.int .i64 ((rd_T46 t341 ((rd_T37 t344 (ji51)).f0)).f2))).setCell ⟨gb362, 3, none⟩ (.int .i64 ((rd_T46 t341 ((rd_T37 t344 (ji51)).f0)).f3))).setCell ⟨gb362, 4, none⟩ (.int .i64 ((rd_T46 t341 ((rd_T37 t344 (ji51)).f0)).f4))).setCell ⟨gb362, 5, none⟩ (.int .i64 ((rd_T46 t341 ((rd_T37 t344 (ji51)).f0)).f5))) w.heap.size (fun _ => True) (.slice (some ad354) t341.length co12) t341) := ⟨Kd.V_mono (Kd.V_far (p := ⟨gb362, 5, none⟩) (Kd.V_far (p := ⟨gb362, 4, none⟩) (Kd.V_far (p := ⟨gb362, 3, none⟩) (Kd.V_far (p := ⟨gb362, 2, none⟩) (Kd.V_far (p := ⟨gb362, 1, none⟩) (Kd.V_far (p := ⟨gb362, 0, none⟩) (HO_12.out) (fun _ hk => hk.2) (.int .i64 ((rd_T46 t341 ((rd_T37 t344 (ji51)).f0)).f0))) (fun _ hk => hk.2) (.int .i64 ((rd_T46 t341 ((rd_T37 t344 (ji51)).f0)).f1))) (fun _ hk => hk.2) (.int .i64 ((rd_T46 t341 ((rd_T37 t344 (ji51)).f0)).f2))) (fun _ hk => hk.2) (.int .i64 ((rd_T46 t341 ((rd_T37 t344 (ji51)).f0)).f3))) (fun _ hk => hk.2) (.int .i64 ((rd_T46 t341 ((rd_T37 t344 (ji51)).f0)).f4))) (fun _ hk => hk.2) (.int .i64 ((rd_T46 t341 ((rd_T37 t344 (ji51)).f0)).f5))) (fun _ _ => trivial)⟩
                      have n1_ : Aside0 (Kd.V k37 37 ((((((w66.setCell ⟨gb362, 0, none⟩ (.int .i64 ((rd_T46 t341 ((rd_T37 t344 (ji51)).f0)).f0))).setCell ⟨gb362, 1, none⟩ (.int .i64 ((rd_T46 t341 ((rd_T37 t344 (ji51)).f0)).f1))).setCell ⟨gb362, 2, none⟩ (.int .i64 ((rd_T46 t341 ((rd_T37 t344 (ji51)).f0)).f2))).setCell ⟨gb362, 3, none⟩ (.int .i64 ((rd_T46 t341 ((rd_T37 t344 (ji51)).f0)).f3))).setCell ⟨gb362, 4, none⟩ (.int .i64 ((rd_T46 t341 ((rd_T37 t344 (ji51)).f0)).f4))).setCell ⟨gb362, 5, none⟩ (.int .i64 ((rd_T46 t341 ((rd_T37 t344 (ji51)).f0)).f5))) w.heap.size (fun _ => True) (.slice (some ad353) t344.length co18) t344) := ⟨Kd.V_mono (Kd.V_far (p := ⟨gb362, 5, none⟩) (Kd.V_far (p := ⟨gb362, 4, none⟩) (Kd.V_far (p := ⟨gb362, 3, none⟩) (Kd.V_far (p := ⟨gb362, 2, none⟩) (Kd.V_far (p := ⟨gb362, 1, none⟩) (Kd.V_far (p := ⟨gb362, 0, none⟩) (HO_13.out) (fun _ hk => hk.2) (.int .i64 ((rd_T46 t341 ((rd_T37 t344 (ji51)).f0)).f0))) (fun _ hk => hk.2) (.int .i64 ((rd_T46 t341 ((rd_T37 t344 (ji51)).f0)).f1))) (fun _ hk => hk.2) (.int .i64 ((rd_T46 t341 ((rd_T37 t344 (ji51)).f0)).f2))) (fun _ hk => hk.2) (.int .i64 ((rd_T46 t341 ((rd_T37 t344 (ji51)).f0)).f3))) (fun _ hk => hk.2) (.int .i64 ((rd_T46 t341 ((rd_T37 t344 (ji51)).f0)).f4))) (fun _ hk => hk.2) (.int .i64 ((rd_T46 t341 ((rd_T37 t344 (ji51)).f0)).f5))) (fun _ _ => trivial)⟩
                      have n2_ : Aside0 (Kd.V (Kd.int .i64) 3 ((((((w66.setCell ⟨gb362, 0, none⟩ (.int .i64 ((rd_T46 t341 ((rd_T37 t344 (ji51)).f0)).f0))).setCell ⟨gb362, 1, none⟩ (.int .i64 ((rd_T46 t341 ((rd_T37 t344 (ji51)).f0)).f1))).setCell ⟨gb362, 2, none⟩ (.int .i64 ((rd_T46 t341 ((rd_T37 t344 (ji51)).f0)).f2))).setCell ⟨gb362, 3, none⟩ (.int .i64 ((rd_T46 t341 ((rd_T37 t344 (ji51)).f0)).f3))).setCell ⟨gb362, 4, none⟩ (.int .i64 ((rd_T46 t341 ((rd_T37 t344 (ji51)).f0)).f4))).setCell ⟨gb362, 5, none⟩ (.int .i64 ((rd_T46 t341 ((rd_T37 t344 (ji51)).f0)).f5))) w.heap.size (fun _ => True) (.slice Ao56 t349.length co56) t349) := ⟨Kd.V_mono (Kd.V_far (p := ⟨gb362, 5, none⟩) (Kd.V_far (p := ⟨gb362, 4, none⟩) (Kd.V_far (p := ⟨gb362, 3, none⟩) (Kd.V_far (p := ⟨gb362, 2, none⟩) (Kd.V_far (p := ⟨gb362, 1, none⟩) (Kd.V_far (p := ⟨gb362, 0, none⟩) (HO_15.out) (fun _ hk => hk.2) (.int .i64 ((rd_T46 t341 ((rd_T37 t344 (ji51)).f0)).f0))) (fun _ hk => hk.2) (.int .i64 ((rd_T46 t341 ((rd_T37 t344 (ji51)).f0)).f1))) (fun _ hk => hk.2) (.int .i64 ((rd_T46 t341 ((rd_T37 t344 (ji51)).f0)).f2))) (fun _ hk => hk.2) (.int .i64 ((rd_T46 t341 ((rd_T37 t344 (ji51)).f0)).f3))) (fun _ hk => hk.2) (.int .i64 ((rd_T46 t341 ((rd_T37 t344 (ji51)).f0)).f4))) (fun _ hk => hk.2) (.int .i64 ((rd_T46 t341 ((rd_T37 t344 (ji51)).f0)).f5))) (fun _ _ => trivial)⟩
                      have n3_ : Aside0 (((((((w66.setCell ⟨gb362, 0, none⟩ (.int .i64 ((rd_T46 t341 ((rd_T37 t344 (ji51)).f0)).f0))).setCell ⟨gb362, 1, none⟩ (.int .i64 ((rd_T46 t341 ((rd_T37 t344 (ji51)).f0)).f1))).setCell ⟨gb362, 2, none⟩ (.int .i64 ((rd_T46 t341 ((rd_T37 t344 (ji51)).f0)).f2))).setCell ⟨gb362, 3, none⟩ (.int .i64 ((rd_T46 t341 ((rd_T37 t344 (ji51)).f0)).f3))).setCell ⟨gb362, 4, none⟩ (.int .i64 ((rd_T46 t341 ((rd_T37 t344 (ji51)).f0)).f4))).setCell ⟨gb362, 5, none⟩ (.int .i64 ((rd_T46 t341 ((rd_T37 t344 (ji51)).f0)).f5))).heap[gb362]? = some (.cells #[.int .i64 ((rd_T46 t341 ((rd_T37 t344 (ji51)).f0)).f0), .int .i64 ((rd_T46 t341 ((rd_T37 t344 (ji51)).f0)).f1), .int .i64 ((rd_T46 t341 ((rd_T37 t344 (ji51)).f0)).f2), .int .i64 ((rd_T46 t341 ((rd_T37 t344 (ji51)).f0)).f3), .int .i64 ((rd_T46 t341 ((rd_T37 t344 (ji51)).f0)).f4), .int .i64 ((rd_T46 t341 ((rd_T37 t344 (ji51)).f0)).f5)] 46 (0, 0))) := ⟨blk_put (cs := #[.int .i64 ((rd_T46 t341 ((rd_T37 t344 (ji51)).f0)).f0), .int .i64 ((rd_T46 t341 ((rd_T37 t344 (ji51)).f0)).f1), .int .i64 ((rd_T46 t341 ((rd_T37 t344 (ji51)).f0)).f2), .int .i64 ((rd_T46 t341 ((rd_T37 t344 (ji51)).f0)).f3), .int .i64 ((rd_T46 t341 ((rd_T37 t344 (ji51)).f0)).f4), .int .i64 0]) (blk_put (cs := #[.int .i64 ((rd_T46 t341 ((rd_T37 t344 (ji51)).f0)).f0), .int .i64 ((rd_T46 t341 ((rd_T37 t344 (ji51)).f0)).f1), .int .i64 ((rd_T46 t341 ((rd_T37 t344 (ji51)).f0)).f2), .int .i64 ((rd_T46 t341 ((rd_T37 t344 (ji51)).f0)).f3), .int .i64 0, .int .i64 0]) (blk_put (cs := #[.int .i64 ((rd_T46 t341 ((rd_T37 t344 (ji51)).f0)).f0), .int .i64 ((rd_T46 t341 ((rd_T37 t344 (ji51)).f0)).f1), .int .i64 ((rd_T46 t341 ((rd_T37 t344 (ji51)).f0)).f2), .int .i64 0, .int .i64 0, .int .i64 0]) (blk_put (cs := #[.int .i64 ((rd_T46 t341 ((rd_T37 t344 (ji51)).f0)).f0), .int .i64 ((rd_T46 t341 ((rd_T37 t344 (ji51)).f0)).f1), .int .i64 0, .int .i64 0, .int .i64 0, .int .i64 0]) (blk_put (cs := #[.int .i64 ((rd_T46 t341 ((rd_T37 t344 (ji51)).f0)).f0), .int .i64 0, .int .i64 0, .int .i64 0, .int .i64 0, .int .i64 0]) (blk_put (cs := #[.int .i64 0, .int .i64 0, .int .i64 0, .int .i64 0, .int .i64 0, .int .i64 0]) (BK362.out) 0 _ rfl) 1 _ rfl) 2 _ rfl) 3 _ rfl) 4 _ rfl) 5 _ rfl⟩
                      have n4_ : Aside0 (((((((w66.setCell ⟨gb362, 0, none⟩ (.int .i64 ((rd_T46 t341 ((rd_T37 t344 (ji51)).f0)).f0))).setCell ⟨gb362, 1, none⟩ (.int .i64 ((rd_T46 t341 ((rd_T37 t344 (ji51)).f0)).f1))).setCell ⟨gb362, 2, none⟩ (.int .i64 ((rd_T46 t341 ((rd_T37 t344 (ji51)).f0)).f2))).setCell ⟨gb362, 3, none⟩ (.int .i64 ((rd_T46 t341 ((rd_T37 t344 (ji51)).f0)).f3))).setCell ⟨gb362, 4, none⟩ (.int .i64 ((rd_T46 t341 ((rd_T37 t344 (ji51)).f0)).f4))).setCell ⟨gb362, 5, none⟩ (.int .i64 ((rd_T46 t341 ((rd_T37 t344 (ji51)).f0)).f5))).heap[gb355]? = some (.cells #[.int .i64 ((rd_T46 t341 ((rd_T37 t344 x18_1).f0)).f0), .int .i64 ((rd_T46 t341 ((rd_T37 t344 x18_1).f0)).f1), .int .i64 ((rd_T46 t341 ((rd_T37 t344 x18_1).f0)).f2), .int .i64 ((rd_T46 t341 ((rd_T37 t344 x18_1).f0)).f3), .int .i64 ((rd_T46 t341 ((rd_T37 t344 x18_1).f0)).f4), .int .i64 ((rd_T46 t341 ((rd_T37 t344 x18_1).f0)).f5)] 46 (0, 0))) := ⟨blk_far (blk_far (blk_far (blk_far (blk_far (blk_far (BK355.out) NB.out _) NB.out _) NB.out _) NB.out _) NB.out _) NB.out _⟩
                      have n5_ : Aside0 (Below w.heap.size w ((((((w66.setCell ⟨gb362, 0, none⟩ (.int .i64 ((rd_T46 t341 ((rd_T37 t344 (ji51)).f0)).f0))).setCell ⟨gb362, 1, none⟩ (.int .i64 ((rd_T46 t341 ((rd_T37 t344 (ji51)).f0)).f1))).setCell ⟨gb362, 2, none⟩ (.int .i64 ((rd_T46 t341 ((rd_T37 t344 (ji51)).f0)).f2))).setCell ⟨gb362, 3, none⟩ (.int .i64 ((rd_T46 t341 ((rd_T37 t344 (ji51)).f0)).f3))).setCell ⟨gb362, 4, none⟩ (.int .i64 ((rd_T46 t341 ((rd_T37 t344 (ji51)).f0)).f4))).setCell ⟨gb362, 5, none⟩ (.int .i64 ((rd_T46 t341 ((rd_T37 t344 (ji51)).f0)).f5)))) := ⟨below_set (below_set (below_set (below_set (below_set (below_set (HB.out) GE362.out) GE362.out) GE362.out) GE362.out) GE362.out) GE362.out⟩
                      clear hcz_0 hcz_1 hcz_2 hcz_3 hcz_4 hcz_5 hfz_0 hfz_1 hfz_2 hfz_3 hfz_4 hfz_5
                      clear HO_12 HO_13 HO_15 BK355 BK362 HB hx360_0 hx360_1 hx361_0 hx361_1 hx361_2 hx361_3 hx361_4 hx361_5
                      generalize ((((((w66.setCell ⟨gb362, 0, none⟩ (.int .i64 ((rd_T46 t341 ((rd_T37 t344 (ji51)).f0)).f0))).setCell ⟨gb362, 1, none⟩ (.int .i64 ((rd_T46 t341 ((rd_T37 t344 (ji51)).f0)).f1))).setCell ⟨gb362, 2, none⟩ (.int .i64 ((rd_T46 t341 ((rd_T37 t344 (ji51)).f0)).f2))).setCell ⟨gb362, 3, none⟩ (.int .i64 ((rd_T46 t341 ((rd_T37 t344 (ji51)).f0)).f3))).setCell ⟨gb362, 4, none⟩ (.int .i64 ((rd_T46 t341 ((rd_T37 t344 (ji51)).f0)).f4))).setCell ⟨gb362, 5, none⟩ (.int .i64 ((rd_T46 t341 ((rd_T37 t344 (ji51)).f0)).f5))) = wY at n0_ n1_ n2_ n3_ n4_ n5_ ⊢
                      have HO_12 := n0_
                      have HO_13 := n1_
                      have HO_15 := n2_
                      have BK362 := n3_
                      have BK355 := n4_
                      have HB := n5_
                      clear n0_ n1_ n2_ n3_ n4_ n5_
                      obtain ⟨adz, ez_, hz0, hz1⟩ := at_T37 (Kd.V_reads' HO_13.out).2.2 (ji51) (of_eq_true p360) (of_eq_true q360)
                      obtain rfl : ad353 = adz := (by injection ez_)
                      have hb0 : wY.cell? ⟨gb355, 0, none⟩ = some (.int .i64 ((rd_T46 t341 ((rd_T37 t344 x18_1).f0)).f0)) := (blk_cell BK355.out 0).trans rfl
                      have hd0 : wY.cell? ⟨gb362, 0, none⟩ = some (.int .i64 ((rd_T46 t341 ((rd_T37 t344 (ji51)).f0)).f0)) := (blk_cell BK362.out 0).trans rfl
                      have hb2 : wY.cell? ⟨gb355, 2, none⟩ = some (.int .i64 ((rd_T46 t341 ((rd_T37 t344 x18_1).f0)).f2)) := (blk_cell BK355.out 2).trans rfl
                      have hd2 : wY.cell? ⟨gb362, 2, none⟩ = some (.int .i64 ((rd_T46 t341 ((rd_T37 t344 (ji51)).f0)).f2)) := (blk_cell BK362.out 2).trans rfl
                      have H := HH.out
                      clear HH
                      by_cases c56 : ((rd_T46 t341 ((rd_T37 t344 (ji51)).f0)).f0) = ((rd_T46 t341 ((rd_T37 t344 x18_1).f0)).f0)
                      ·rw [if_pos c56] at H
                       have c56b0 : (((rd_T46 t341 ((rd_T37 t344 (ji51)).f0)).f0) == ((rd_T46 t341 ((rd_T37 t344 x18_1).f0)).f0)) = true := beq_iff_eq.mpr c56
                       have c56b1 : (((rd_T46 t341 ((rd_T37 t344 (ji51)).f0)).f0) != ((rd_T46 t341 ((rd_T37 t344 x18_1).f0)).f0)) = false := bne_eq_false_iff_eq.mpr c56
                       clear c56
                       by_cases c57 : ((rd_T46 t341 ((rd_T37 t344 (ji51)).f0)).f2) > ((rd_T46 t341 ((rd_T37 t344 x18_1).f0)).f2)
                       ·rw [if_pos c57] at H
                        have c57b0 : decide (((rd_T46 t341 ((rd_T37 t344 x18_1).f0)).f2) < ((rd_T46 t341 ((rd_T37 t344 (ji51)).f0)).f2)) = true := decide_eq_true c57
                        clear c57
                        obtain rfl := Option.some.inj H
                        go_wp2
                        repeat (go_quiet (fail); try go_wp2)
                        go_ret
                        exact ⟨by first | rfl | (simp [errW_none, errW_some] <;> rfl) | (simp only [← hji51]; first | rfl | (simp [errW_none, errW_some] <;> rfl)) | (simp [*, errW_none, errW_some] <;> rfl), mB HB.out⟩
                       ·rw [if_neg c57] at H
                        have c57b0 : decide (((rd_T46 t341 ((rd_T37 t344 x18_1).f0)).f2) < ((rd_T46 t341 ((rd_T37 t344 (ji51)).f0)).f2)) = false := decide_eq_false c57
                        clear c57
                        by_cases c63 : ((rd_T46 t341 ((rd_T37 t344 (ji51)).f0)).f2) = ((rd_T46 t341 ((rd_T37 t344 x18_1).f0)).f2)
                        ·rw [if_pos c63] at H
                         have c63b0 : (((rd_T46 t341 ((rd_T37 t344 (ji51)).f0)).f2) == ((rd_T46 t341 ((rd_T37 t344 x18_1).f0)).f2)) = true := beq_iff_eq.mpr c63
                         have c63b1 : (((rd_T46 t341 ((rd_T37 t344 (ji51)).f0)).f2) != ((rd_T46 t341 ((rd_T37 t344 x18_1).f0)).f2)) = false := bne_eq_false_iff_eq.mpr c63
                         clear c63
                         by_cases c64 : ((rd_T37 t344 (ji51)).f0) ≥ ((rd_T37 t344 x18_1).f0)
                         ·rw [if_pos c64] at H
                          have c64b0 : decide (((rd_T37 t344 x18_1).f0) ≤ ((rd_T37 t344 (ji51)).f0)) = true := decide_eq_true c64
                          clear c64
                          obtain rfl := Option.some.inj H
                          go_wp2
                          repeat (go_quiet (fail); try go_wp2)
                          go_ret
                          exact ⟨by first | rfl | (simp [errW_none, errW_some] <;> rfl) | (simp only [← hji51]; first | rfl | (simp [errW_none, errW_some] <;> rfl)) | (simp [*, errW_none, errW_some] <;> rfl), mB HB.out⟩
                         ·rw [if_neg c64] at H
                          have c64b0 : decide (((rd_T37 t344 x18_1).f0) ≤ ((rd_T37 t344 (ji51)).f0)) = false := decide_eq_false c64
                          clear c64
                          by_cases c70 : 0 ≤ x18_1
                          ·rw [if_pos c70] at H
                           by_cases c71 : x18_1 < (t344.length : Int)
                           ·rw [if_pos c71] at H
                            have H' := Aside0.mk H
                            clear H
                            obtain ⟨adq, eq_, hq0, hq1⟩ := at_T37 (Kd.V_reads' HO_13.out).2.2 x18_1 c70 c71
                            obtain rfl : ad353 = adq := (by injection eq_)
                            have c70b0 : decide (0 ≤ x18_1) = true := decide_eq_true c70
                            have c71b0 : decide (x18_1 < (t344.length : Int)) = true := decide_eq_true c71
                            replace c70 := eq_true c70
                            replace c71 := eq_true c71
                            go_wp2
                            repeat (go_quiet (fail); try go_wp2)
                            go_roundg kj38
                            case measure => have := HK1.out; have := HJ16.out; have := HJ22.out; have := HJ38.out; omega
                            case rel => exact ⟨(wrap64 (x16_1 - ((rd_T37 t344 x18_1).f1))), (x17_38), (wrap64 (x18_1 + 1)), ez, ez, ez, H', ⟨by have := HK1.out; have := HJ16.out; have := HJ22.out; have := HJ38.out; omega⟩, ⟨(by (with_reducible repeat (first | apply Kd.V_alloc | apply Kd.V_drewN | apply Kd.V_drew)); exact HO_12.out)⟩, ⟨(by (with_reducible repeat (first | apply Kd.V_alloc | apply Kd.V_drewN | apply Kd.V_drew)); exact HO_13.out)⟩, ⟨(by (with_reducible repeat (first | apply Kd.V_alloc | apply Kd.V_drewN | apply Kd.V_drew)); exact HO_15.out)⟩, ⟨mB HB.out⟩⟩
                           ·rw [if_neg c71] at H
                            exact absurd H (by simp)
                          ·rw [if_neg c70] at H
                           exact absurd H (by simp)
                        ·rw [if_neg c63] at H
                         have c63b0 : (((rd_T46 t341 ((rd_T37 t344 (ji51)).f0)).f2) == ((rd_T46 t341 ((rd_T37 t344 x18_1).f0)).f2)) = false := beq_eq_false_iff_ne.mpr c63
                         have c63b1 : (((rd_T46 t341 ((rd_T37 t344 (ji51)).f0)).f2) != ((rd_T46 t341 ((rd_T37 t344 x18_1).f0)).f2)) = true := bne_iff_ne.mpr c63
                         clear c63
                         by_cases c70 : 0 ≤ x18_1
                         ·rw [if_pos c70] at H
                          by_cases c71 : x18_1 < (t344.length : Int)
                          ·rw [if_pos c71] at H
                           have H' := Aside0.mk H
                           clear H
                           obtain ⟨adq, eq_, hq0, hq1⟩ := at_T37 (Kd.V_reads' HO_13.out).2.2 x18_1 c70 c71
                           obtain rfl : ad353 = adq := (by injection eq_)
                           have c70b0 : decide (0 ≤ x18_1) = true := decide_eq_true c70
                           have c71b0 : decide (x18_1 < (t344.length : Int)) = true := decide_eq_true c71
                           replace c70 := eq_true c70
                           replace c71 := eq_true c71
                           go_wp2
                           repeat (go_quiet (fail); try go_wp2)
                           go_roundg kj38
                           case measure => have := HK1.out; have := HJ16.out; have := HJ22.out; have := HJ38.out; omega
                           case rel => exact ⟨(wrap64 (x16_1 - ((rd_T37 t344 x18_1).f1))), (x17_38), (wrap64 (x18_1 + 1)), ez, ez, ez, H', ⟨by have := HK1.out; have := HJ16.out; have := HJ22.out; have := HJ38.out; omega⟩, ⟨(by (with_reducible repeat (first | apply Kd.V_alloc | apply Kd.V_drewN | apply Kd.V_drew)); exact HO_12.out)⟩, ⟨(by (with_reducible repeat (first | apply Kd.V_alloc | apply Kd.V_drewN | apply Kd.V_drew)); exact HO_13.out)⟩, ⟨(by (with_reducible repeat (first | apply Kd.V_alloc | apply Kd.V_drewN | apply Kd.V_drew)); exact HO_15.out)⟩, ⟨mB HB.out⟩⟩
                          ·rw [if_neg c71] at H
                           exact absurd H (by simp)
                         ·rw [if_neg c70] at H
                          exact absurd H (by simp)
                      ·rw [if_neg c56] at H
                       have c56b0 : (((rd_T46 t341 ((rd_T37 t344 (ji51)).f0)).f0) == ((rd_T46 t341 ((rd_T37 t344 x18_1).f0)).f0)) = false := beq_eq_false_iff_ne.mpr c56
                       have c56b1 : (((rd_T46 t341 ((rd_T37 t344 (ji51)).f0)).f0) != ((rd_T46 t341 ((rd_T37 t344 x18_1).f0)).f0)) = true := bne_iff_ne.mpr c56
                       clear c56
                       by_cases c70 : 0 ≤ x18_1
                       ·rw [if_pos c70] at H
                        by_cases c71 : x18_1 < (t344.length : Int)
                        ·rw [if_pos c71] at H
                         have H' := Aside0.mk H
                         clear H
                         obtain ⟨adq, eq_, hq0, hq1⟩ := at_T37 (Kd.V_reads' HO_13.out).2.2 x18_1 c70 c71
                         obtain rfl : ad353 = adq := (by injection eq_)
                         have c70b0 : decide (0 ≤ x18_1) = true := decide_eq_true c70
                         have c71b0 : decide (x18_1 < (t344.length : Int)) = true := decide_eq_true c71
                         replace c70 := eq_true c70
                         replace c71 := eq_true c71
                         go_wp2
                         repeat (go_quiet (fail); try go_wp2)
                         go_roundg kj38
                         case measure => have := HK1.out; have := HJ16.out; have := HJ22.out; have := HJ38.out; omega
                         case rel => exact ⟨(wrap64 (x16_1 - ((rd_T37 t344 x18_1).f1))), (x17_38), (wrap64 (x18_1 + 1)), ez, ez, ez, H', ⟨by have := HK1.out; have := HJ16.out; have := HJ22.out; have := HJ38.out; omega⟩, ⟨(by (with_reducible repeat (first | apply Kd.V_alloc | apply Kd.V_drewN | apply Kd.V_drew)); exact HO_12.out)⟩, ⟨(by (with_reducible repeat (first | apply Kd.V_alloc | apply Kd.V_drewN | apply Kd.V_drew)); exact HO_13.out)⟩, ⟨(by (with_reducible repeat (first | apply Kd.V_alloc | apply Kd.V_drewN | apply Kd.V_drew)); exact HO_15.out)⟩, ⟨mB HB.out⟩⟩
                        ·rw [if_neg c71] at H
                         exact absurd H (by simp)
                       ·rw [if_neg c70] at H
                        exact absurd H (by simp)
                     ·rw [if_neg c55] at H
                      exact absurd H (by simp)
                    ·rw [if_neg c54] at H
                     exact absurd H (by simp)
                   ·rw [if_neg c53] at H
                    exact absurd H (by simp)
                  ·rw [if_neg c52] at H
                   exact absurd H (by simp)
                 ·rw [if_neg c50] at H
                  have c50b0 : decide (0 < x18_1) = false := decide_eq_false c50
                  clear c50
                  by_cases c91 : 0 ≤ x18_1
                  ·rw [if_pos c91] at H
                   have c91b0 : decide (0 ≤ x18_1) = true := decide_eq_true c91
                   clear c91
                   by_cases c92 : x18_1 < (t344.length : Int)
                   ·rw [if_pos c92] at H
                    have c92b0 : decide (x18_1 < (t344.length : Int)) = true := decide_eq_true c92
                    clear c92
                    have H' := Aside0.mk H
                    clear H
                    obtain ⟨Ao93, co93, eo93⟩ := Kd.V_slice HO_15.out
                    subst eo93
                    have p367 : 0 ≤ (x18_1 : Int) := oda
                    have q367 : x18_1 < (t344.length : Int) := oda
                    obtain ⟨ad367, e367, hx367_0, hx367_1⟩ := at_T37 (Kd.V_reads' HO_13.out).2.2 x18_1 p367 q367
                    obtain rfl : ad353 = ad367 := (by injection e367)
                    replace p367 := eq_true p367
                    replace q367 := eq_true q367
                    go_wp2
                    repeat (go_quiet (fail); try go_wp2)
                    go_roundg kj38
                    case measure => have := HK1.out; have := HJ16.out; have := HJ22.out; have := HJ38.out; omega
                    case rel => exact ⟨(wrap64 (x16_1 - ((rd_T37 t344 x18_1).f1))), (x17_38), (wrap64 (x18_1 + 1)), ez, ez, ez, H', ⟨by have := HK1.out; have := HJ16.out; have := HJ22.out; have := HJ38.out; omega⟩, ⟨by (with_reducible repeat (first | apply Kd.V_alloc | apply Kd.V_drewN | apply Kd.V_drew)); exact Kd.V_mono HO_12.out (fun _ hk => trivial)⟩, ⟨by (with_reducible repeat (first | apply Kd.V_alloc | apply Kd.V_drewN | apply Kd.V_drew)); exact Kd.V_mono HO_13.out (fun _ hk => trivial)⟩, ⟨by (with_reducible repeat (first | apply Kd.V_alloc | apply Kd.V_drewN | apply Kd.V_drew)); exact Kd.V_mono HO_15.out (fun _ hk => trivial)⟩, ⟨mBs HB.out⟩⟩
                   ·rw [if_neg c92] at H
                    exact absurd H (by simp)
                  ·rw [if_neg c91] at H
                   exact absurd H (by simp)
          ·rw [if_neg c22] at H
           exact absurd H (by simp)
         ·rw [if_neg c21] at H
          exact absurd H (by simp)
     ·rw [if_neg c16] at H
      exact absurd H (by simp)
    ·rw [if_neg c15] at H
     have c15b0 : decide (x18_1 < (t344.length : Int)) = false := decide_eq_false c15
     clear c15
     replace H := Option.bind_eq_some_iff.mp H
     obtain ⟨t352, A940, H⟩ := H
     replace H : (if t352 = true then (some (x16_1 == 0)) else (some false)) = some r := H
     have A94 := Aside0.mk A940
     clear A940
     by_cases c95 : t352 = true
     ·subst c95
      have H1 : (some (x16_1 == 0)) = some r := by rw [if_pos rfl] at H; exact H
      clear H
      have H := H1
      clear H1
      obtain rfl := Option.some.inj H
      obtain ⟨Ao96, co96, eo96⟩ := Kd.V_slice HO_13.out
      subst eo96
      go_wp2_with (first | (go_at_call 11; (with_reducible refine (prebendlaw11_awake.calls k1  true _ A94.out).mono ?_); rintro e w97 ⟨rfl, hb⟩; have n0_ := Aside0.mk (Kd.V_below (mV HO_12.out) hb); have n1_ := Aside0.mk (Kd.V_below (mV HO_13.out) hb); have n2_ := Aside0.mk (Kd.V_below (mV HO_15.out) hb); have n3_ := Aside0.mk (below_step (mB HB.out) hb); clear HO_12; clear HO_13; clear HO_15; clear HB; have HO_12 := n0_; have HO_13 := n1_; have HO_15 := n2_; have HB := n3_; clear n0_ n1_ n2_ n3_; (try clear hb); (try clear hb2); (try clear hk); (try clear hi)))
      repeat (go_quiet (first | (go_at_call 11; (with_reducible refine (prebendlaw11_awake.calls k1  true _ A94.out).mono ?_); rintro e w97 ⟨rfl, hb⟩; have n0_ := Aside0.mk (Kd.V_below (mV HO_12.out) hb); have n1_ := Aside0.mk (Kd.V_below (mV HO_13.out) hb); have n2_ := Aside0.mk (Kd.V_below (mV HO_15.out) hb); have n3_ := Aside0.mk (below_step (mB HB.out) hb); clear HO_12; clear HO_13; clear HO_15; clear HB; have HO_12 := n0_; have HO_13 := n1_; have HO_15 := n2_; have HB := n3_; clear n0_ n1_ n2_ n3_; (try clear hb); (try clear hb2); (try clear hk); (try clear hi))); try go_wp2_with (first | (go_at_call 11; (with_reducible refine (prebendlaw11_awake.calls k1  true _ A94.out).mono ?_); rintro e w97 ⟨rfl, hb⟩; have n0_ := Aside0.mk (Kd.V_below (mV HO_12.out) hb); have n1_ := Aside0.mk (Kd.V_below (mV HO_13.out) hb); have n2_ := Aside0.mk (Kd.V_below (mV HO_15.out) hb); have n3_ := Aside0.mk (below_step (mB HB.out) hb); clear HO_12; clear HO_13; clear HO_15; clear HB; have HO_12 := n0_; have HO_13 := n1_; have HO_15 := n2_; have HB := n3_; clear n0_ n1_ n2_ n3_; (try clear hb); (try clear hb2); (try clear hk); (try clear hi))))
      go_ret
      exact ⟨by first | rfl | (simp [errW_none, errW_some] <;> rfl) | (simp [*, errW_none, errW_some] <;> rfl), by repeat (first | (with_reducible first | exact HB.out | apply below_alloc | apply pw_below_drewN | apply below_drew1) | exact HB.out)⟩
     ·replace c95 := Bool.eq_false_iff.mpr c95
      subst c95
      have H1 : (some false) = some r := by rw [if_neg (show ¬ (false = true) by decide)] at H; exact H
      clear H
      have H := H1
      clear H1
      obtain rfl := Option.some.inj H
      obtain ⟨Ao98, co98, eo98⟩ := Kd.V_slice HO_13.out
      subst eo98
      go_wp2_with (first | (go_at_call 11; (with_reducible refine (prebendlaw11_awake.calls k1  false _ A94.out).mono ?_); rintro e w99 ⟨rfl, hb⟩; have n0_ := Aside0.mk (Kd.V_below (mV HO_12.out) hb); have n1_ := Aside0.mk (Kd.V_below (mV HO_13.out) hb); have n2_ := Aside0.mk (Kd.V_below (mV HO_15.out) hb); have n3_ := Aside0.mk (below_step (mB HB.out) hb); clear HO_12; clear HO_13; clear HO_15; clear HB; have HO_12 := n0_; have HO_13 := n1_; have HO_15 := n2_; have HB := n3_; clear n0_ n1_ n2_ n3_; (try clear hb); (try clear hb2); (try clear hk); (try clear hi)))
      repeat (go_quiet (first | (go_at_call 11; (with_reducible refine (prebendlaw11_awake.calls k1  false _ A94.out).mono ?_); rintro e w99 ⟨rfl, hb⟩; have n0_ := Aside0.mk (Kd.V_below (mV HO_12.out) hb); have n1_ := Aside0.mk (Kd.V_below (mV HO_13.out) hb); have n2_ := Aside0.mk (Kd.V_below (mV HO_15.out) hb); have n3_ := Aside0.mk (below_step (mB HB.out) hb); clear HO_12; clear HO_13; clear HO_15; clear HB; have HO_12 := n0_; have HO_13 := n1_; have HO_15 := n2_; have HB := n3_; clear n0_ n1_ n2_ n3_; (try clear hb); (try clear hb2); (try clear hk); (try clear hi))); try go_wp2_with (first | (go_at_call 11; (with_reducible refine (prebendlaw11_awake.calls k1  false _ A94.out).mono ?_); rintro e w99 ⟨rfl, hb⟩; have n0_ := Aside0.mk (Kd.V_below (mV HO_12.out) hb); have n1_ := Aside0.mk (Kd.V_below (mV HO_13.out) hb); have n2_ := Aside0.mk (Kd.V_below (mV HO_15.out) hb); have n3_ := Aside0.mk (below_step (mB HB.out) hb); clear HO_12; clear HO_13; clear HO_15; clear HB; have HO_12 := n0_; have HO_13 := n1_; have HO_15 := n2_; have HB := n3_; clear n0_ n1_ n2_ n3_; (try clear hb); (try clear hb2); (try clear hk); (try clear hi))))
      go_ret
      exact ⟨by first | rfl | (simp [errW_none, errW_some] <;> rfl) | (simp [*, errW_none, errW_some] <;> rfl), by repeat (first | (with_reducible first | exact HB.out | apply below_alloc | apply pw_below_drewN | apply below_drew1) | exact HB.out)⟩
 ·rw [if_neg c8] at H
  have c8b0 : (t347 == 0) = false := beq_eq_false_iff_ne.mpr c8
  have c8b1 : (t347 != 0) = true := bne_iff_ne.mpr c8
  replace H := Option.bind_eq_some_iff.mp H
  obtain ⟨t348, A1000, H⟩ := H
  replace H : (if t348 = true then (some ((t344.length : Int) == 0)) else (some false)) = some r := H
  have A100 := Aside0.mk A1000
  clear A1000
  by_cases c101 : t348 = true
  ·subst c101
   have H1 : (some ((t344.length : Int) == 0)) = some r := by rw [if_pos rfl] at H; exact H
   clear H
   have H := H1
   clear H1
   obtain rfl := Option.some.inj H
   go_enter Try.func5, Try.ntmps5
   go_wp2_with (first | (go_at_call 8; (with_reducible refine (prebendlaw11_few.calls (fun k_ => k_ < w.heap.size) _ _ l0 (fun k_ => k_ < w.heap.size) _ _ l1 t338 t341 _ ?side1 ?side2 A6.out).mono ?_); (case side1 => exact Kd.V_mk HC0.out (Kd.F_below (Kd.C_F k62_heap HR0.out) (mB HB.out))); (case side2 => exact Kd.V_mk HC1.out (Kd.F_below (Kd.C_F k46_heap HR1.out) (mB HB.out))); rintro e w102 ⟨v339, v342, rfl, ho0, ho1, hb⟩; have n0_ := Aside0.mk (Kd.V_lower (Kd.V_mono (ok' := fun k_ => True) ho0 (fun k_ hk_ => trivial)) (below_size (mB HB.out))); have n1_ := Aside0.mk (Kd.V_lower (Kd.V_mono (ok' := fun k_ => True) ho1 (fun k_ hk_ => trivial)) (below_size (mB HB.out))); have n2_ := Aside0.mk (below_step (mB HB.out) hb); clear HB; have HO340 := n0_; have HO343 := n1_; have HB := n2_; clear n0_ n1_ n2_; (try clear hb); (try clear hb2); (try clear hk); (try clear hi); (try clear ho0); (try clear ho1); obtain ⟨Ao103, co103, eo103⟩ := Kd.V_slice HO340.out; subst eo103; obtain ⟨Ao104, co104, eo104⟩ := Kd.V_slice HO343.out; subst eo104) | (go_at_call 9; (with_reducible refine (draw_Draws.calls k _ _ t338 _ _ t341 a2 a3 a4 t344 t347 _ ?side1 ?side2 ?side3 ?side4 A7.out).mono ?_); (case side1 => exact mC (Kd.V_reads' HO340.out).2.2); (case side2 => exact (Kd.V_reads' HO340.out).2.1); (case side3 => exact mC (Kd.V_reads' HO343.out).2.2); (case side4 => exact (Kd.V_reads' HO343.out).2.1); rintro e w105 ⟨v345, rfl, ho0, hb⟩; have n0_ := Aside0.mk (Kd.V_below (mV HO340.out) hb); have n1_ := Aside0.mk (Kd.V_below (mV HO343.out) hb); have n2_ := Aside0.mk (Kd.V_lower (Kd.V_mono (ok' := fun k_ => True) ho0 (fun k_ hk_ => trivial)) (below_size (mB HB.out))); have n3_ := Aside0.mk (below_step (mB HB.out) hb); clear HO340; clear HO343; clear HB; have HO340 := n0_; have HO343 := n1_; have HO346 := n2_; have HB := n3_; clear n0_ n1_ n2_ n3_; (try clear hb); (try clear hb2); (try clear hk); (try clear hi); (try clear ho0)) | (go_at_call 11; (with_reducible refine (prebendlaw11_awake.calls k  true _ A100.out).mono ?_); rintro e w106 ⟨rfl, hb⟩; have n0_ := Aside0.mk (Kd.V_below (mV HO340.out) hb); have n1_ := Aside0.mk (Kd.V_below (mV HO343.out) hb); have n2_ := Aside0.mk (Kd.V_below (mV HO346.out) hb); have n3_ := Aside0.mk (below_step (mB HB.out) hb); clear HO340; clear HO343; clear HO346; clear HB; have HO340 := n0_; have HO343 := n1_; have HO346 := n2_; have HB := n3_; clear n0_ n1_ n2_ n3_; (try clear hb); (try clear hb2); (try clear hk); (try clear hi); obtain ⟨Ao107, co107, eo107⟩ := Kd.V_slice HO346.out; subst eo107))
   repeat (go_quiet (first | (go_at_call 8; (with_reducible refine (prebendlaw11_few.calls (fun k_ => k_ < w.heap.size) _ _ l0 (fun k_ => k_ < w.heap.size) _ _ l1 t338 t341 _ ?side1 ?side2 A6.out).mono ?_); (case side1 => exact Kd.V_mk HC0.out (Kd.F_below (Kd.C_F k62_heap HR0.out) (mB HB.out))); (case side2 => exact Kd.V_mk HC1.out (Kd.F_below (Kd.C_F k46_heap HR1.out) (mB HB.out))); rintro e w102 ⟨v339, v342, rfl, ho0, ho1, hb⟩; have n0_ := Aside0.mk (Kd.V_lower (Kd.V_mono (ok' := fun k_ => True) ho0 (fun k_ hk_ => trivial)) (below_size (mB HB.out))); have n1_ := Aside0.mk (Kd.V_lower (Kd.V_mono (ok' := fun k_ => True) ho1 (fun k_ hk_ => trivial)) (below_size (mB HB.out))); have n2_ := Aside0.mk (below_step (mB HB.out) hb); clear HB; have HO340 := n0_; have HO343 := n1_; have HB := n2_; clear n0_ n1_ n2_; (try clear hb); (try clear hb2); (try clear hk); (try clear hi); (try clear ho0); (try clear ho1); obtain ⟨Ao103, co103, eo103⟩ := Kd.V_slice HO340.out; subst eo103; obtain ⟨Ao104, co104, eo104⟩ := Kd.V_slice HO343.out; subst eo104) | (go_at_call 9; (with_reducible refine (draw_Draws.calls k _ _ t338 _ _ t341 a2 a3 a4 t344 t347 _ ?side1 ?side2 ?side3 ?side4 A7.out).mono ?_); (case side1 => exact mC (Kd.V_reads' HO340.out).2.2); (case side2 => exact (Kd.V_reads' HO340.out).2.1); (case side3 => exact mC (Kd.V_reads' HO343.out).2.2); (case side4 => exact (Kd.V_reads' HO343.out).2.1); rintro e w105 ⟨v345, rfl, ho0, hb⟩; have n0_ := Aside0.mk (Kd.V_below (mV HO340.out) hb); have n1_ := Aside0.mk (Kd.V_below (mV HO343.out) hb); have n2_ := Aside0.mk (Kd.V_lower (Kd.V_mono (ok' := fun k_ => True) ho0 (fun k_ hk_ => trivial)) (below_size (mB HB.out))); have n3_ := Aside0.mk (below_step (mB HB.out) hb); clear HO340; clear HO343; clear HB; have HO340 := n0_; have HO343 := n1_; have HO346 := n2_; have HB := n3_; clear n0_ n1_ n2_ n3_; (try clear hb); (try clear hb2); (try clear hk); (try clear hi); (try clear ho0)) | (go_at_call 11; (with_reducible refine (prebendlaw11_awake.calls k  true _ A100.out).mono ?_); rintro e w106 ⟨rfl, hb⟩; have n0_ := Aside0.mk (Kd.V_below (mV HO340.out) hb); have n1_ := Aside0.mk (Kd.V_below (mV HO343.out) hb); have n2_ := Aside0.mk (Kd.V_below (mV HO346.out) hb); have n3_ := Aside0.mk (below_step (mB HB.out) hb); clear HO340; clear HO343; clear HO346; clear HB; have HO340 := n0_; have HO343 := n1_; have HO346 := n2_; have HB := n3_; clear n0_ n1_ n2_ n3_; (try clear hb); (try clear hb2); (try clear hk); (try clear hi); obtain ⟨Ao107, co107, eo107⟩ := Kd.V_slice HO346.out; subst eo107)); try go_wp2_with (first | (go_at_call 8; (with_reducible refine (prebendlaw11_few.calls (fun k_ => k_ < w.heap.size) _ _ l0 (fun k_ => k_ < w.heap.size) _ _ l1 t338 t341 _ ?side1 ?side2 A6.out).mono ?_); (case side1 => exact Kd.V_mk HC0.out (Kd.F_below (Kd.C_F k62_heap HR0.out) (mB HB.out))); (case side2 => exact Kd.V_mk HC1.out (Kd.F_below (Kd.C_F k46_heap HR1.out) (mB HB.out))); rintro e w102 ⟨v339, v342, rfl, ho0, ho1, hb⟩; have n0_ := Aside0.mk (Kd.V_lower (Kd.V_mono (ok' := fun k_ => True) ho0 (fun k_ hk_ => trivial)) (below_size (mB HB.out))); have n1_ := Aside0.mk (Kd.V_lower (Kd.V_mono (ok' := fun k_ => True) ho1 (fun k_ hk_ => trivial)) (below_size (mB HB.out))); have n2_ := Aside0.mk (below_step (mB HB.out) hb); clear HB; have HO340 := n0_; have HO343 := n1_; have HB := n2_; clear n0_ n1_ n2_; (try clear hb); (try clear hb2); (try clear hk); (try clear hi); (try clear ho0); (try clear ho1); obtain ⟨Ao103, co103, eo103⟩ := Kd.V_slice HO340.out; subst eo103; obtain ⟨Ao104, co104, eo104⟩ := Kd.V_slice HO343.out; subst eo104) | (go_at_call 9; (with_reducible refine (draw_Draws.calls k _ _ t338 _ _ t341 a2 a3 a4 t344 t347 _ ?side1 ?side2 ?side3 ?side4 A7.out).mono ?_); (case side1 => exact mC (Kd.V_reads' HO340.out).2.2); (case side2 => exact (Kd.V_reads' HO340.out).2.1); (case side3 => exact mC (Kd.V_reads' HO343.out).2.2); (case side4 => exact (Kd.V_reads' HO343.out).2.1); rintro e w105 ⟨v345, rfl, ho0, hb⟩; have n0_ := Aside0.mk (Kd.V_below (mV HO340.out) hb); have n1_ := Aside0.mk (Kd.V_below (mV HO343.out) hb); have n2_ := Aside0.mk (Kd.V_lower (Kd.V_mono (ok' := fun k_ => True) ho0 (fun k_ hk_ => trivial)) (below_size (mB HB.out))); have n3_ := Aside0.mk (below_step (mB HB.out) hb); clear HO340; clear HO343; clear HB; have HO340 := n0_; have HO343 := n1_; have HO346 := n2_; have HB := n3_; clear n0_ n1_ n2_ n3_; (try clear hb); (try clear hb2); (try clear hk); (try clear hi); (try clear ho0)) | (go_at_call 11; (with_reducible refine (prebendlaw11_awake.calls k  true _ A100.out).mono ?_); rintro e w106 ⟨rfl, hb⟩; have n0_ := Aside0.mk (Kd.V_below (mV HO340.out) hb); have n1_ := Aside0.mk (Kd.V_below (mV HO343.out) hb); have n2_ := Aside0.mk (Kd.V_below (mV HO346.out) hb); have n3_ := Aside0.mk (below_step (mB HB.out) hb); clear HO340; clear HO343; clear HO346; clear HB; have HO340 := n0_; have HO343 := n1_; have HO346 := n2_; have HB := n3_; clear n0_ n1_ n2_ n3_; (try clear hb); (try clear hb2); (try clear hk); (try clear hi); obtain ⟨Ao107, co107, eo107⟩ := Kd.V_slice HO346.out; subst eo107)))
   go_ret
   exact ⟨by first | rfl | (simp [errW_none, errW_some] <;> rfl) | (simp [*, errW_none, errW_some] <;> rfl), by repeat (first | (with_reducible first | exact HB.out | apply below_alloc | apply pw_below_drewN | apply below_drew1) | exact HB.out)⟩
  ·replace c101 := Bool.eq_false_iff.mpr c101
   subst c101
   have H1 : (some false) = some r := by rw [if_neg (show ¬ (false = true) by decide)] at H; exact H
   clear H
   have H := H1
   clear H1
   obtain rfl := Option.some.inj H
   go_enter Try.func5, Try.ntmps5
   go_wp2_with (first | (go_at_call 8; (with_reducible refine (prebendlaw11_few.calls (fun k_ => k_ < w.heap.size) _ _ l0 (fun k_ => k_ < w.heap.size) _ _ l1 t338 t341 _ ?side1 ?side2 A6.out).mono ?_); (case side1 => exact Kd.V_mk HC0.out (Kd.F_below (Kd.C_F k62_heap HR0.out) (mB HB.out))); (case side2 => exact Kd.V_mk HC1.out (Kd.F_below (Kd.C_F k46_heap HR1.out) (mB HB.out))); rintro e w108 ⟨v339, v342, rfl, ho0, ho1, hb⟩; have n0_ := Aside0.mk (Kd.V_lower (Kd.V_mono (ok' := fun k_ => True) ho0 (fun k_ hk_ => trivial)) (below_size (mB HB.out))); have n1_ := Aside0.mk (Kd.V_lower (Kd.V_mono (ok' := fun k_ => True) ho1 (fun k_ hk_ => trivial)) (below_size (mB HB.out))); have n2_ := Aside0.mk (below_step (mB HB.out) hb); clear HB; have HO340 := n0_; have HO343 := n1_; have HB := n2_; clear n0_ n1_ n2_; (try clear hb); (try clear hb2); (try clear hk); (try clear hi); (try clear ho0); (try clear ho1); obtain ⟨Ao109, co109, eo109⟩ := Kd.V_slice HO340.out; subst eo109; obtain ⟨Ao110, co110, eo110⟩ := Kd.V_slice HO343.out; subst eo110) | (go_at_call 9; (with_reducible refine (draw_Draws.calls k _ _ t338 _ _ t341 a2 a3 a4 t344 t347 _ ?side1 ?side2 ?side3 ?side4 A7.out).mono ?_); (case side1 => exact mC (Kd.V_reads' HO340.out).2.2); (case side2 => exact (Kd.V_reads' HO340.out).2.1); (case side3 => exact mC (Kd.V_reads' HO343.out).2.2); (case side4 => exact (Kd.V_reads' HO343.out).2.1); rintro e w111 ⟨v345, rfl, ho0, hb⟩; have n0_ := Aside0.mk (Kd.V_below (mV HO340.out) hb); have n1_ := Aside0.mk (Kd.V_below (mV HO343.out) hb); have n2_ := Aside0.mk (Kd.V_lower (Kd.V_mono (ok' := fun k_ => True) ho0 (fun k_ hk_ => trivial)) (below_size (mB HB.out))); have n3_ := Aside0.mk (below_step (mB HB.out) hb); clear HO340; clear HO343; clear HB; have HO340 := n0_; have HO343 := n1_; have HO346 := n2_; have HB := n3_; clear n0_ n1_ n2_ n3_; (try clear hb); (try clear hb2); (try clear hk); (try clear hi); (try clear ho0)) | (go_at_call 11; (with_reducible refine (prebendlaw11_awake.calls k  false _ A100.out).mono ?_); rintro e w112 ⟨rfl, hb⟩; have n0_ := Aside0.mk (Kd.V_below (mV HO340.out) hb); have n1_ := Aside0.mk (Kd.V_below (mV HO343.out) hb); have n2_ := Aside0.mk (Kd.V_below (mV HO346.out) hb); have n3_ := Aside0.mk (below_step (mB HB.out) hb); clear HO340; clear HO343; clear HO346; clear HB; have HO340 := n0_; have HO343 := n1_; have HO346 := n2_; have HB := n3_; clear n0_ n1_ n2_ n3_; (try clear hb); (try clear hb2); (try clear hk); (try clear hi)))
   repeat (go_quiet (first | (go_at_call 8; (with_reducible refine (prebendlaw11_few.calls (fun k_ => k_ < w.heap.size) _ _ l0 (fun k_ => k_ < w.heap.size) _ _ l1 t338 t341 _ ?side1 ?side2 A6.out).mono ?_); (case side1 => exact Kd.V_mk HC0.out (Kd.F_below (Kd.C_F k62_heap HR0.out) (mB HB.out))); (case side2 => exact Kd.V_mk HC1.out (Kd.F_below (Kd.C_F k46_heap HR1.out) (mB HB.out))); rintro e w108 ⟨v339, v342, rfl, ho0, ho1, hb⟩; have n0_ := Aside0.mk (Kd.V_lower (Kd.V_mono (ok' := fun k_ => True) ho0 (fun k_ hk_ => trivial)) (below_size (mB HB.out))); have n1_ := Aside0.mk (Kd.V_lower (Kd.V_mono (ok' := fun k_ => True) ho1 (fun k_ hk_ => trivial)) (below_size (mB HB.out))); have n2_ := Aside0.mk (below_step (mB HB.out) hb); clear HB; have HO340 := n0_; have HO343 := n1_; have HB := n2_; clear n0_ n1_ n2_; (try clear hb); (try clear hb2); (try clear hk); (try clear hi); (try clear ho0); (try clear ho1); obtain ⟨Ao109, co109, eo109⟩ := Kd.V_slice HO340.out; subst eo109; obtain ⟨Ao110, co110, eo110⟩ := Kd.V_slice HO343.out; subst eo110) | (go_at_call 9; (with_reducible refine (draw_Draws.calls k _ _ t338 _ _ t341 a2 a3 a4 t344 t347 _ ?side1 ?side2 ?side3 ?side4 A7.out).mono ?_); (case side1 => exact mC (Kd.V_reads' HO340.out).2.2); (case side2 => exact (Kd.V_reads' HO340.out).2.1); (case side3 => exact mC (Kd.V_reads' HO343.out).2.2); (case side4 => exact (Kd.V_reads' HO343.out).2.1); rintro e w111 ⟨v345, rfl, ho0, hb⟩; have n0_ := Aside0.mk (Kd.V_below (mV HO340.out) hb); have n1_ := Aside0.mk (Kd.V_below (mV HO343.out) hb); have n2_ := Aside0.mk (Kd.V_lower (Kd.V_mono (ok' := fun k_ => True) ho0 (fun k_ hk_ => trivial)) (below_size (mB HB.out))); have n3_ := Aside0.mk (below_step (mB HB.out) hb); clear HO340; clear HO343; clear HB; have HO340 := n0_; have HO343 := n1_; have HO346 := n2_; have HB := n3_; clear n0_ n1_ n2_ n3_; (try clear hb); (try clear hb2); (try clear hk); (try clear hi); (try clear ho0)) | (go_at_call 11; (with_reducible refine (prebendlaw11_awake.calls k  false _ A100.out).mono ?_); rintro e w112 ⟨rfl, hb⟩; have n0_ := Aside0.mk (Kd.V_below (mV HO340.out) hb); have n1_ := Aside0.mk (Kd.V_below (mV HO343.out) hb); have n2_ := Aside0.mk (Kd.V_below (mV HO346.out) hb); have n3_ := Aside0.mk (below_step (mB HB.out) hb); clear HO340; clear HO343; clear HO346; clear HB; have HO340 := n0_; have HO343 := n1_; have HO346 := n2_; have HB := n3_; clear n0_ n1_ n2_ n3_; (try clear hb); (try clear hb2); (try clear hk); (try clear hi))); try go_wp2_with (first | (go_at_call 8; (with_reducible refine (prebendlaw11_few.calls (fun k_ => k_ < w.heap.size) _ _ l0 (fun k_ => k_ < w.heap.size) _ _ l1 t338 t341 _ ?side1 ?side2 A6.out).mono ?_); (case side1 => exact Kd.V_mk HC0.out (Kd.F_below (Kd.C_F k62_heap HR0.out) (mB HB.out))); (case side2 => exact Kd.V_mk HC1.out (Kd.F_below (Kd.C_F k46_heap HR1.out) (mB HB.out))); rintro e w108 ⟨v339, v342, rfl, ho0, ho1, hb⟩; have n0_ := Aside0.mk (Kd.V_lower (Kd.V_mono (ok' := fun k_ => True) ho0 (fun k_ hk_ => trivial)) (below_size (mB HB.out))); have n1_ := Aside0.mk (Kd.V_lower (Kd.V_mono (ok' := fun k_ => True) ho1 (fun k_ hk_ => trivial)) (below_size (mB HB.out))); have n2_ := Aside0.mk (below_step (mB HB.out) hb); clear HB; have HO340 := n0_; have HO343 := n1_; have HB := n2_; clear n0_ n1_ n2_; (try clear hb); (try clear hb2); (try clear hk); (try clear hi); (try clear ho0); (try clear ho1); obtain ⟨Ao109, co109, eo109⟩ := Kd.V_slice HO340.out; subst eo109; obtain ⟨Ao110, co110, eo110⟩ := Kd.V_slice HO343.out; subst eo110) | (go_at_call 9; (with_reducible refine (draw_Draws.calls k _ _ t338 _ _ t341 a2 a3 a4 t344 t347 _ ?side1 ?side2 ?side3 ?side4 A7.out).mono ?_); (case side1 => exact mC (Kd.V_reads' HO340.out).2.2); (case side2 => exact (Kd.V_reads' HO340.out).2.1); (case side3 => exact mC (Kd.V_reads' HO343.out).2.2); (case side4 => exact (Kd.V_reads' HO343.out).2.1); rintro e w111 ⟨v345, rfl, ho0, hb⟩; have n0_ := Aside0.mk (Kd.V_below (mV HO340.out) hb); have n1_ := Aside0.mk (Kd.V_below (mV HO343.out) hb); have n2_ := Aside0.mk (Kd.V_lower (Kd.V_mono (ok' := fun k_ => True) ho0 (fun k_ hk_ => trivial)) (below_size (mB HB.out))); have n3_ := Aside0.mk (below_step (mB HB.out) hb); clear HO340; clear HO343; clear HB; have HO340 := n0_; have HO343 := n1_; have HO346 := n2_; have HB := n3_; clear n0_ n1_ n2_ n3_; (try clear hb); (try clear hb2); (try clear hk); (try clear hi); (try clear ho0)) | (go_at_call 11; (with_reducible refine (prebendlaw11_awake.calls k  false _ A100.out).mono ?_); rintro e w112 ⟨rfl, hb⟩; have n0_ := Aside0.mk (Kd.V_below (mV HO340.out) hb); have n1_ := Aside0.mk (Kd.V_below (mV HO343.out) hb); have n2_ := Aside0.mk (Kd.V_below (mV HO346.out) hb); have n3_ := Aside0.mk (below_step (mB HB.out) hb); clear HO340; clear HO343; clear HO346; clear HB; have HO340 := n0_; have HO343 := n1_; have HO346 := n2_; have HB := n3_; clear n0_ n1_ n2_ n3_; (try clear hb); (try clear hb2); (try clear hk); (try clear hi))))
   go_ret
   exact ⟨by first | rfl | (simp [errW_none, errW_some] <;> rfl) | (simp [*, errW_none, errW_some] <;> rfl), by repeat (first | (with_reducible first | exact HB.out | apply below_alloc | apply pw_below_drewN | apply below_drew1) | exact HB.out)⟩

/-- THE ONE PURE STATEMENT of prebendlaw11_DrawTakes. -/
def prebendlaw11_DrawTakes.Pure : Prop := ∀ (l0 : List (S62)) (l1 : List (S46)) (a2 : Int) (a3 : Int) (a4 : Int), (l0.length ≤ maxLen ∧ ∀ y ∈ l0, g62 y) → (l1.length ≤ maxLen ∧ ∀ y ∈ l1, g46 y) → (Lit.int .i64 a2).wf = true → (Lit.int .i64 a3).wf = true → (Lit.int .i64 a4).wf = true → ∃ k, prebendlaw11_DrawTakes.f k l0 l1 a2 a3 a4 = some true
theorem prebendlaw11_DrawTakes.walk (P : prebendlaw11_DrawTakes.Pure) (A0 : Option Addr) (c0 : Nat) (l0 : List (S62)) (A1 : Option Addr) (c1 : Nat) (l1 : List (S46)) (a2 : Int) (a3 : Int) (a4 : Int) (w : World) (hr0 : Kd.C k62 w A0 l0.length l0) (hc0 : l0.length ≤ c0) (hr1 : Kd.C k46 w A1 l1.length l1) (hc1 : l1.length ≤ c1) (h0_ : (l0.length ≤ maxLen ∧ ∀ y ∈ l0, g62 y)) (h1_ : (l1.length ≤ maxLen ∧ ∀ y ∈ l1, g46 y)) (h2_ : (Lit.int .i64 a2).wf = true) (h3_ : (Lit.int .i64 a3).wf = true) (h4_ : (Lit.int .i64 a4).wf = true) :
  Calls Try.prog 5 #[.slice A0 l0.length c0, .slice A1 l1.length c1, .int .i64 a2, .int .i64 a3, .int .i64 a4] w fun e w' => e = .returned (.bool true) ∧ Below w.heap.size w w' := by
 obtain ⟨k, h⟩ := P l0 l1 a2 a3 a4 h0_ h1_ h2_ h3_ h4_
 refine (prebendlaw11_DrawTakes.calls k A0 c0 l0 A1 c1 l1 a2 a3 a4 true w hr0 hc0 hr1 hc1 h).mono ?_
 rintro e w' ⟨rfl, hd⟩
 exact ⟨rfl, hd⟩

end Go.Proofs.Ytlccomoiajnkmaa.PAll
end
