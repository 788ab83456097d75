/- Contracts of functions of the program, each with a plain function of the same answers; written by a program of this workplace. -/
import Derived.Test.YtfdlncakhnlgoaaPAllx0
import Derived.Test.YtfdlncakhnlgoaaPAllx1
import Derived.Test.YtfdlncakhnlgoaaPAllx5
import Derived.Test.YtfdlncakhnlgoaaPAllx8
import Derived.Test.YtfdlncakhnlgoaaPAllx13
import Derived.Test.YtfdlncakhnlgoaaPAllx15
namespace Go.Proofs.Ytfdlncakhnlgoaa.PAll
open Go.RowKit Go.Proofs.YtfdlncakhnlgoaaW.PrintWords Go.Proofs.YtfdlncakhnlgoaaW.PrintLast Go.Proofs.YtfdlncakhnlgoaaW.PrintMore
attribute [local go_sem] max2_int min2_int max_two min_two max_three min_three max_four min_four   -- for this text's walks alone
set_option linter.unusedVariables false
set_option linter.unusedSimpArgs false

/-! ### prebendlaw08_TreeMore: function 6 -/
mutual
def prebendlaw08_TreeMore.j0 : Nat → Int → Int → List (S40) → List (S43) → Bool → Option (Bool)
  | 0, _, _, _, _, _ => none
  | k + 1, x2, x3, x9, x10, x43 => if x43 = true then ((prebendlaw08_awake.f k).bind fun t300 => (some t300)) else ((some (([] : List (S43)) : List (S43))).bind fun y301 => (if y301.length + x10.length < 2932031007402 then (prebendlaw08_TreeMore.l0 k x2 x3 x9 x10 (y301 ++ x10) 0) else (none)))
def prebendlaw08_TreeMore.l0 : Nat → Int → Int → List (S40) → List (S43) → List (S43) → Int → Option (Bool)
  | 0, _, _, _, _, _, _ => none
  | k + 1, x2, x3, x9, x10, x11, x12 => if x12 < (x11.length : Int) then (if 0 ≤ x12 then (if ((rd_T43 x11 x12).f4) < 0 then ((prebendlaw08_awake.f k).bind fun t308 => (some t308)) else (if ((rd_T43 x11 x12).f5) < 0 then ((prebendlaw08_awake.f k).bind fun t310 => (some t310)) else (if ((rd_T43 x11 x12).f4) > 1099511627776 then ((prebendlaw08_awake.f k).bind fun t312 => (some t312)) else (if ((rd_T43 x11 x12).f5) > 1099511627776 then ((prebendlaw08_awake.f k).bind fun t314 => (some t314)) else (prebendlaw08_TreeMore.l0 k x2 x3 x9 x10 x11 (wrap64 (x12 + 1))))))) else (none)) else (if (x11.length : Int) = 0 then (none) else (if 0 ≤ (Int.tmod (wrap64 (x2)) (x11.length : Int)) then (if (Int.tmod (wrap64 (x2)) (x11.length : Int)) < (x11.length : Int) then (prebendlaw08_TreeMore.l1 k x3 x9 x10 (x11.set ((Int.tmod (wrap64 (x2)) (x11.length : Int)) : Int).toNat (⟨(rd_T43 x11 (Int.tmod (wrap64 (x2)) (x11.length : Int))).f0, (rd_T43 x11 (Int.tmod (wrap64 (x2)) (x11.length : Int))).f1, (rd_T43 x11 (Int.tmod (wrap64 (x2)) (x11.length : Int))).f2, (rd_T43 x11 (Int.tmod (wrap64 (x2)) (x11.length : Int))).f3, (rd_T43 x11 (Int.tmod (wrap64 (x2)) (x11.length : Int))).f4, wrap64 (((rd_T43 x11 (Int.tmod (wrap64 (x2)) (x11.length : Int))).f5) + (wrap64 (x3)))⟩ : S43)) (Int.tmod (wrap64 (x2)) (x11.length : Int)) 0) else (none)) else (none)))
def prebendlaw08_TreeMore.l1 : Nat → Int → List (S40) → List (S43) → List (S43) → Int → Int → Option (Bool)
  | 0, _, _, _, _, _, _ => none
  | k + 1, x3, x9, x10, x11, x13, x14 => if x14 < (x9.length : Int) then ((tree_Use.f k x9 x10 x14).bind fun bt318 => ((tree_Use.f k x9 x11 x14).bind fun bt320 => (if 0 ≤ x13 then (if x13 < (x11.length : Int) then ((tree_Path.f k x9 ((rd_T43 x11 x13).f0)).bind fun t323 => (prebendlaw08_TreeMore.l2 k x3 x9 x10 x11 x13 x14 bt318.1 bt318.2 bt320.1 bt320.2 false t323 0)) else (none)) else (none)))) else ((prebendlaw08_awake.f k).bind fun t317 => (some t317))
def prebendlaw08_TreeMore.l2 : Nat → Int → List (S40) → List (S43) → List (S43) → Int → Int → Int → Int → Int → Int → Bool → List Int → Int → Option (Bool)
  | 0, _, _, _, _, _, _, _, _, _, _, _, _, _ => none
  | k + 1, x3, x9, x10, x11, x13, x14, x15, x16, x17, x18, x19, x20, x21 => if x21 < (x20.length : Int) then (if x19 = true then (prebendlaw08_TreeMore.l2 k x3 x9 x10 x11 x13 x14 x15 x16 x17 x18 true x20 (wrap64 (x21 + 1))) else (if 0 ≤ x21 then (prebendlaw08_TreeMore.l2 k x3 x9 x10 x11 x13 x14 x15 x16 x17 x18 ((rd x20 x21) == x14) x20 (wrap64 (x21 + 1))) else (none))) else (if x16 = 0 then (if x18 = 0 then (if x19 = true then (if x17 = (wrap64 (x15 + (wrap64 (x3)))) then (prebendlaw08_TreeMore.j4 k x3 x9 x10 x11 x13 x14 x15 false) else (prebendlaw08_TreeMore.j4 k x3 x9 x10 x11 x13 x14 x15 true)) else (prebendlaw08_TreeMore.j4 k x3 x9 x10 x11 x13 x14 x15 (x17 != x15))) else (prebendlaw08_TreeMore.j4 k x3 x9 x10 x11 x13 x14 x15 true)) else (prebendlaw08_TreeMore.j4 k x3 x9 x10 x11 x13 x14 x15 true))
def prebendlaw08_TreeMore.j4 : Nat → Int → List (S40) → List (S43) → List (S43) → Int → Int → Int → Bool → Option (Bool)
  | 0, _, _, _, _, _, _, _, _ => none
  | k + 1, x3, x9, x10, x11, x13, x14, x15, x167 => if x167 = true then (some false) else (if 0 ≤ x14 then (if x14 < (x9.length : Int) then (if ((rd_T40 x9 x14).f1) ≥ 0 then ((tree_Use.f k x9 x10 ((rd_T40 x9 x14).f1)).bind fun bt328 => (if bt328.2 = 0 then (if bt328.1 < x15 then (some false) else (prebendlaw08_TreeMore.l1 k x3 x9 x10 x11 x13 (wrap64 (x14 + 1)))) else (some false))) else (prebendlaw08_TreeMore.l1 k x3 x9 x10 x11 x13 (wrap64 (x14 + 1)))) else (none)) else (none))
end
def prebendlaw08_TreeMore.f (k : Nat) (l0 : List (S40)) (l1 : List (S43)) (a2 : Int) (a3 : Int) : Option (Bool) := (prebendlaw08_few.f l0 l1).bind fun bt293 => ((tree_Good.f k bt293.1).bind fun t299 => (if t299 = true then (if (bt293.2.length : Int) = 0 then (prebendlaw08_TreeMore.j0 k a2 a3 bt293.1 bt293.2 true) else (prebendlaw08_TreeMore.j0 k a2 a3 bt293.1 bt293.2 ((bt293.1.length : Int) == 0))) else (prebendlaw08_TreeMore.j0 k a2 a3 bt293.1 bt293.2 true)))
theorem prebendlaw08_TreeMore.mono_l : ∀ k, (∀ y0 y1 y2 y3 y4, LeO (prebendlaw08_TreeMore.j0 k y0 y1 y2 y3 y4) (prebendlaw08_TreeMore.j0 (k + 1) y0 y1 y2 y3 y4)) ∧ (∀ y0 y1 y2 y3 y4 y5, LeO (prebendlaw08_TreeMore.l0 k y0 y1 y2 y3 y4 y5) (prebendlaw08_TreeMore.l0 (k + 1) y0 y1 y2 y3 y4 y5)) ∧ (∀ y0 y1 y2 y3 y4 y5, LeO (prebendlaw08_TreeMore.l1 k y0 y1 y2 y3 y4 y5) (prebendlaw08_TreeMore.l1 (k + 1) y0 y1 y2 y3 y4 y5)) ∧ (∀ y0 y1 y2 y3 y4 y5 y6 y7 y8 y9 y10 y11 y12, LeO (prebendlaw08_TreeMore.l2 k y0 y1 y2 y3 y4 y5 y6 y7 y8 y9 y10 y11 y12) (prebendlaw08_TreeMore.l2 (k + 1) y0 y1 y2 y3 y4 y5 y6 y7 y8 y9 y10 y11 y12)) ∧ (∀ y0 y1 y2 y3 y4 y5 y6 y7, LeO (prebendlaw08_TreeMore.j4 k y0 y1 y2 y3 y4 y5 y6 y7) (prebendlaw08_TreeMore.j4 (k + 1) y0 y1 y2 y3 y4 y5 y6 y7))
  | 0 => ⟨fun _ _ _ _ _ r h => by simp [prebendlaw08_TreeMore.j0] at h, fun _ _ _ _ _ _ r h => by simp [prebendlaw08_TreeMore.l0] at h, fun _ _ _ _ _ _ r h => by simp [prebendlaw08_TreeMore.l1] at h, fun _ _ _ _ _ _ _ _ _ _ _ _ _ r h => by simp [prebendlaw08_TreeMore.l2] at h, fun _ _ _ _ _ _ _ _ r h => by simp [prebendlaw08_TreeMore.j4] at h⟩
  | k + 1 => by
    obtain ⟨ih0, ih1, ih2, ih3, ih4⟩ := prebendlaw08_TreeMore.mono_l k
    refine ⟨?_, ?_, ?_, ?_, ?_⟩
    · intro y0 y1 y2 y3 y4
      unfold prebendlaw08_TreeMore.j0
      repeat' first
      | (with_reducible exact ih0 _ _ _ _ _)
      | (with_reducible exact ih1 _ _ _ _ _ _)
      | (with_reducible exact ih2 _ _ _ _ _ _)
      | (with_reducible exact ih3 _ _ _ _ _ _ _ _ _ _ _ _ _)
      | (with_reducible exact ih4 _ _ _ _ _ _ _ _)
      | (with_reducible exact prebendlaw08_awake.mono _)
      | (with_reducible exact tree_Good.mono _ _)
      | (with_reducible exact tree_Path.mono _ _ _)
      | (with_reducible exact tree_Use.mono _ _ _ _)
      | (with_reducible exact LeO.refl _)
      | (with_reducible exact LeO.none _)
      | (with_reducible refine LeO.ite ?_ ?_)
      | (with_reducible refine LeO.bind ?_ (fun _ => ?_))
      | exact ih0 _ _ _ _ _
      | exact ih1 _ _ _ _ _ _
      | exact ih2 _ _ _ _ _ _
      | exact ih3 _ _ _ _ _ _ _ _ _ _ _ _ _
      | exact ih4 _ _ _ _ _ _ _ _
      | exact prebendlaw08_awake.mono _
      | exact tree_Good.mono _ _
      | exact tree_Path.mono _ _ _
      | exact tree_Use.mono _ _ _ _
      | exact LeO.none _
      | refine LeO.ite ?_ ?_
      | refine LeO.bind ?_ (fun _ => ?_)
    · intro y0 y1 y2 y3 y4 y5
      unfold prebendlaw08_TreeMore.l0
      repeat' first
      | (with_reducible exact ih0 _ _ _ _ _)
      | (with_reducible exact ih1 _ _ _ _ _ _)
      | (with_reducible exact ih2 _ _ _ _ _ _)
      | (with_reducible exact ih3 _ _ _ _ _ _ _ _ _ _ _ _ _)
      | (with_reducible exact ih4 _ _ _ _ _ _ _ _)
      | (with_reducible exact prebendlaw08_awake.mono _)
      | (with_reducible exact tree_Good.mono _ _)
      | (with_reducible exact tree_Path.mono _ _ _)
      | (with_reducible exact tree_Use.mono _ _ _ _)
      | (with_reducible exact LeO.refl _)
      | (with_reducible exact LeO.none _)
      | (with_reducible refine LeO.ite ?_ ?_)
      | (with_reducible refine LeO.bind ?_ (fun _ => ?_))
      | exact ih0 _ _ _ _ _
      | exact ih1 _ _ _ _ _ _
      | exact ih2 _ _ _ _ _ _
      | exact ih3 _ _ _ _ _ _ _ _ _ _ _ _ _
      | exact ih4 _ _ _ _ _ _ _ _
      | exact prebendlaw08_awake.mono _
      | exact tree_Good.mono _ _
      | exact tree_Path.mono _ _ _
      | exact tree_Use.mono _ _ _ _
      | exact LeO.none _
      | refine LeO.ite ?_ ?_
      | refine LeO.bind ?_ (fun _ => ?_)
    · intro y0 y1 y2 y3 y4 y5
      unfold prebendlaw08_TreeMore.l1
      repeat' first
      | (with_reducible exact ih0 _ _ _ _ _)
      | (with_reducible exact ih1 _ _ _ _ _ _)
      | (with_reducible exact ih2 _ _ _ _ _ _)
      | (with_reducible exact ih3 _ _ _ _ _ _ _ _ _ _ _ _ _)
      | (with_reducible exact ih4 _ _ _ _ _ _ _ _)
      | (with_reducible exact prebendlaw08_awake.mono _)
      | (with_reducible exact tree_Good.mono _ _)
      | (with_reducible exact tree_Path.mono _ _ _)
      | (with_reducible exact tree_Use.mono _ _ _ _)
      | (with_reducible exact LeO.refl _)
      | (with_reducible exact LeO.none _)
      | (with_reducible refine LeO.ite ?_ ?_)
      | (with_reducible refine LeO.bind ?_ (fun _ => ?_))
      | exact ih0 _ _ _ _ _
      | exact ih1 _ _ _ _ _ _
      | exact ih2 _ _ _ _ _ _
      | exact ih3 _ _ _ _ _ _ _ _ _ _ _ _ _
      | exact ih4 _ _ _ _ _ _ _ _
      | exact prebendlaw08_awake.mono _
      | exact tree_Good.mono _ _
      | exact tree_Path.mono _ _ _
      | exact tree_Use.mono _ _ _ _
      | exact LeO.none _
      | refine LeO.ite ?_ ?_
      | refine LeO.bind ?_ (fun _ => ?_)
    · intro y0 y1 y2 y3 y4 y5 y6 y7 y8 y9 y10 y11 y12
      unfold prebendlaw08_TreeMore.l2
      repeat' first
      | (with_reducible exact ih0 _ _ _ _ _)
      | (with_reducible exact ih1 _ _ _ _ _ _)
      | (with_reducible exact ih2 _ _ _ _ _ _)
      | (with_reducible exact ih3 _ _ _ _ _ _ _ _ _ _ _ _ _)
      | (with_reducible exact ih4 _ _ _ _ _ _ _ _)
      | (with_reducible exact prebendlaw08_awake.mono _)
      | (with_reducible exact tree_Good.mono _ _)
      | (with_reducible exact tree_Path.mono _ _ _)
      | (with_reducible exact tree_Use.mono _ _ _ _)
      | (with_reducible exact LeO.refl _)
      | (with_reducible exact LeO.none _)
      | (with_reducible refine LeO.ite ?_ ?_)
      | (with_reducible refine LeO.bind ?_ (fun _ => ?_))
      | exact ih0 _ _ _ _ _
      | exact ih1 _ _ _ _ _ _
      | exact ih2 _ _ _ _ _ _
      | exact ih3 _ _ _ _ _ _ _ _ _ _ _ _ _
      | exact ih4 _ _ _ _ _ _ _ _
      | exact prebendlaw08_awake.mono _
      | exact tree_Good.mono _ _
      | exact tree_Path.mono _ _ _
      | exact tree_Use.mono _ _ _ _
      | exact LeO.none _
      | refine LeO.ite ?_ ?_
      | refine LeO.bind ?_ (fun _ => ?_)
    · intro y0 y1 y2 y3 y4 y5 y6 y7
      unfold prebendlaw08_TreeMore.j4
      repeat' first
      | (with_reducible exact ih0 _ _ _ _ _)
      | (with_reducible exact ih1 _ _ _ _ _ _)
      | (with_reducible exact ih2 _ _ _ _ _ _)
      | (with_reducible exact ih3 _ _ _ _ _ _ _ _ _ _ _ _ _)
      | (with_reducible exact ih4 _ _ _ _ _ _ _ _)
      | (with_reducible exact prebendlaw08_awake.mono _)
      | (with_reducible exact tree_Good.mono _ _)
      | (with_reducible exact tree_Path.mono _ _ _)
      | (with_reducible exact tree_Use.mono _ _ _ _)
      | (with_reducible exact LeO.refl _)
      | (with_reducible exact LeO.none _)
      | (with_reducible refine LeO.ite ?_ ?_)
      | (with_reducible refine LeO.bind ?_ (fun _ => ?_))
      | exact ih0 _ _ _ _ _
      | exact ih1 _ _ _ _ _ _
      | exact ih2 _ _ _ _ _ _
      | exact ih3 _ _ _ _ _ _ _ _ _ _ _ _ _
      | exact ih4 _ _ _ _ _ _ _ _
      | exact prebendlaw08_awake.mono _
      | exact tree_Good.mono _ _
      | exact tree_Path.mono _ _ _
      | exact tree_Use.mono _ _ _ _
      | exact LeO.none _
      | refine LeO.ite ?_ ?_
      | refine LeO.bind ?_ (fun _ => ?_)
theorem prebendlaw08_TreeMore.mono : ∀ a0 a1 a2 a3 k, LeO (prebendlaw08_TreeMore.f k a0 a1 a2 a3) (prebendlaw08_TreeMore.f (k + 1) a0 a1 a2 a3) := by
  intro a0 a1 a2 a3 k
  obtain ⟨ih0, ih1, ih2, ih3, ih4⟩ := prebendlaw08_TreeMore.mono_l k
  unfold prebendlaw08_TreeMore.f
  repeat' first
      | (with_reducible exact ih0 _ _ _ _ _)
      | (with_reducible exact ih1 _ _ _ _ _ _)
      | (with_reducible exact ih2 _ _ _ _ _ _)
      | (with_reducible exact ih3 _ _ _ _ _ _ _ _ _ _ _ _ _)
      | (with_reducible exact ih4 _ _ _ _ _ _ _ _)
      | (with_reducible exact prebendlaw08_awake.mono _)
      | (with_reducible exact tree_Good.mono _ _)
      | (with_reducible exact tree_Path.mono _ _ _)
      | (with_reducible exact tree_Use.mono _ _ _ _)
      | (with_reducible exact LeO.refl _)
      | (with_reducible exact LeO.none _)
      | (with_reducible refine LeO.ite ?_ ?_)
      | (with_reducible refine LeO.bind ?_ (fun _ => ?_))
      | exact ih0 _ _ _ _ _
      | exact ih1 _ _ _ _ _ _
      | exact ih2 _ _ _ _ _ _
      | exact ih3 _ _ _ _ _ _ _ _ _ _ _ _ _
      | exact ih4 _ _ _ _ _ _ _ _
      | exact prebendlaw08_awake.mono _
      | exact tree_Good.mono _ _
      | exact tree_Path.mono _ _ _
      | exact tree_Use.mono _ _ _ _
      | exact LeO.none _
      | refine LeO.ite ?_ ?_
      | refine LeO.bind ?_ (fun _ => ?_)
set_option maxHeartbeats 8000000 in
set_option maxRecDepth 100000 in
theorem prebendlaw08_TreeMore.calls (k : Nat) (A0 : Option Addr) (c0 : Nat) (l0 : List (S40)) (A1 : Option Addr) (c1 : Nat) (l1 : List (S43)) (a2 : Int) (a3 : Int) (r : Bool) (w : World) (hr0 : Kd.C k40 w A0 l0.length l0) (hc0 : l0.length ≤ c0) (hr1 : Kd.C k43 w A1 l1.length l1) (hc1 : l1.length ≤ c1) (h : prebendlaw08_TreeMore.f k l0 l1 a2 a3 = some r) :
    Calls Try.prog 6 #[.slice A0 l0.length c0, .slice A1 l1.length c1, .int .u8 a2, .int .u32 a3] w fun e w' => e = .returned (.bool r) ∧ Below w.heap.size w w' := by
  have HR0 := Aside0.mk hr0
  have HC0 := Aside0.mk hc0
  clear hr0 hc0
  have HR1 := Aside0.mk hr1
  have HC1 := Aside0.mk hc1
  clear hr1 hc1
  have HB := Aside0.mk (Below.refl w.heap.size w)
  have H : ((prebendlaw08_few.f l0 l1).bind fun bt293 => ((tree_Good.f k bt293.1).bind fun t299 => (if t299 = true then (if (bt293.2.length : Int) = 0 then (prebendlaw08_TreeMore.j0 k a2 a3 bt293.1 bt293.2 true) else (prebendlaw08_TreeMore.j0 k a2 a3 bt293.1 bt293.2 ((bt293.1.length : Int) == 0))) else (prebendlaw08_TreeMore.j0 k a2 a3 bt293.1 bt293.2 true)))) = some r := h
  clear h
  replace H := Option.bind_eq_some_iff.mp H
  obtain ⟨⟨t293, t296⟩, A50, H⟩ := H
  replace H : ((tree_Good.f k t293).bind fun t299 => (if t299 = true then (if (t296.length : Int) = 0 then (prebendlaw08_TreeMore.j0 k a2 a3 t293 t296 true) else (prebendlaw08_TreeMore.j0 k a2 a3 t293 t296 ((t293.length : Int) == 0))) else (prebendlaw08_TreeMore.j0 k a2 a3 t293 t296 true))) = some r := H
  have A5 := Aside0.mk A50
  clear A50
  have HC6 := Aside0.mk H
  clear H
  go_enter Try.func6, Try.ntmps6
  go_upto_region 2 with (first | ((with_reducible refine gate_callee (f := 7) rfl ?_); refine goesL_ (some 28) rfl rfl Try.func7 (by kernel_rfl) rfl #[.slice A0 l0.length c0, .slice A1 l1.length c1] rfl (by (try simp only [List.map_toArray, List.map_cons, List.map_nil]); first | done | rfl | (simp only [List.length_drop, List.length_take]; rfl)) ?_; (with_reducible refine (prebendlaw08_few.calls (fun k_ => k_ < w.heap.size) _ _ l0 (fun k_ => k_ < w.heap.size) _ _ l1 t293 t296 _ ?side1 ?side2 A5.out).mono ?_); (case side1 => exact Kd.V_mk HC0.out (Kd.F_below (Kd.C_F k40_heap HR0.out) (by repeat (first | (with_reducible first | exact HB.out | apply below_alloc | apply pw_below_drewN | apply below_drew1) | exact HB.out)))); (case side2 => exact Kd.V_mk HC1.out (Kd.F_below (Kd.C_F k43_heap HR1.out) (by repeat (first | (with_reducible first | exact HB.out | apply below_alloc | apply pw_below_drewN | apply below_drew1) | exact HB.out)))); rintro e w7 ⟨v294, v297, rfl, ho0, ho1, hb⟩; refine ⟨_, rfl, ?_⟩; have n0_ := Aside0.mk (Kd.V_lower (Kd.V_mono (ok' := fun k_ => True) ho0 (fun k_ hk_ => trivial)) (below_size (by repeat (first | (with_reducible first | exact HB.out | apply below_alloc | apply pw_below_drewN | apply below_drew1) | exact HB.out)))); have n1_ := Aside0.mk (Kd.V_lower (Kd.V_mono (ok' := fun k_ => True) ho1 (fun k_ hk_ => trivial)) (below_size (by repeat (first | (with_reducible first | exact HB.out | apply below_alloc | apply pw_below_drewN | apply below_drew1) | exact HB.out)))); have n2_ := Aside0.mk (below_step (by repeat (first | (with_reducible first | exact HB.out | apply below_alloc | apply pw_below_drewN | apply below_drew1) | exact HB.out)) hb); clear HB; have HO295 := n0_; have HO298 := n1_; have HB := n2_; clear n0_ n1_ n2_; (try clear hb); (try clear hb2); (try clear hk); (try clear hi); (try clear ho0); (try clear ho1)))
  (try simp only [Act.put, List.setIfInBounds_toArray, List.set_cons_zero, List.set_cons_succ])
  go_cut [43] (fun v43 wc => ∃ (kq : Nat) (x43_5 : Bool), v43 = .bool x43_5 ∧ Aside0 (prebendlaw08_TreeMore.j0 kq a2 a3 t293 t296 x43_5 = some r) ∧ Aside0 (kq ≤ k) ∧ Aside0 (Kd.V k40 40 wc w.heap.size (fun _ => True) v294 t293) ∧ Aside0 (Kd.V k43 43 wc w.heap.size (fun _ => True) v297 t296) ∧ Aside0 (Below w.heap.size w wc))
  case first =>
    have H := HC6.out
    clear HC6
    replace H := Option.bind_eq_some_iff.mp H
    obtain ⟨t299, A80, H⟩ := H
    replace H : (if t299 = true then (if (t296.length : Int) = 0 then (prebendlaw08_TreeMore.j0 k a2 a3 t293 t296 true) else (prebendlaw08_TreeMore.j0 k a2 a3 t293 t296 ((t293.length : Int) == 0))) else (prebendlaw08_TreeMore.j0 k a2 a3 t293 t296 true)) = some r := H
    have A8 := Aside0.mk A80
    clear A80
    by_cases c9 : t299 = true
    · subst c9
      have H1 : (if (t296.length : Int) = 0 then (prebendlaw08_TreeMore.j0 k a2 a3 t293 t296 true) else (prebendlaw08_TreeMore.j0 k a2 a3 t293 t296 ((t293.length : Int) == 0))) = some r := by rw [if_pos rfl] at H; exact H
      clear H
      have H := H1
      clear H1
      by_cases c10 : (t296.length : Int) = 0
      · rw [if_pos c10] at H
        have c10b0 : ((t296.length : Int) == 0) = true := beq_iff_eq.mpr c10
        have c10b1 : ((t296.length : Int) != 0) = false := bne_eq_false_iff_eq.mpr c10
        clear c10
        (first | rw [c10b0] | (simp only [i64_w, i32_w]; rw [c10b0]) | skip)
        have H' := Aside0.mk H
        clear H
        obtain ⟨Ao11, co11, eo11⟩ := Kd.V_slice HO295.out
        subst eo11
        go_wp2_with (first | ((with_reducible refine gate_callee (f := 9) rfl ?_); refine goesL_ (some 32) rfl rfl Try.func9 (by kernel_rfl) rfl #[.slice Ao11 t293.length co11] rfl (by (try simp only [List.map_toArray, List.map_cons, List.map_nil]); first | done | rfl | (simp only [List.length_drop, List.length_take]; rfl)) ?_; (with_reducible refine (tree_Good.calls k _ _ t293 true _ ?side1 ?side2 A8.out).mono ?_); (case side1 => repeat (first | exact (Kd.V_reads' HO295.out).2.2 | (with_reducible refine Kd.C_alloc ?_ _) | (with_reducible refine Kd.C_drewN ?_ _) | (with_reducible refine Kd.C_drew ?_))); (case side2 => exact (Kd.V_reads' HO295.out).2.1); rintro e w12 ⟨rfl, hb⟩; refine ⟨_, rfl, ?_⟩; have n0_ := Aside0.mk (Kd.V_below (by (with_reducible repeat (first | apply Kd.V_alloc | apply Kd.V_drewN | apply Kd.V_drew)); exact HO295.out) hb); have n1_ := Aside0.mk (Kd.V_below (by (with_reducible repeat (first | apply Kd.V_alloc | apply Kd.V_drewN | apply Kd.V_drew)); exact HO298.out) hb); have n2_ := Aside0.mk (below_step (by repeat (first | (with_reducible first | exact HB.out | apply below_alloc | apply pw_below_drewN | apply below_drew1) | exact HB.out)) hb); clear HO295; clear HO298; clear HB; have HO295 := n0_; have HO298 := n1_; have HB := n2_; clear n0_ n1_ n2_; (try clear hb); (try clear hb2); (try clear hk); (try clear hi); obtain ⟨Ao13, co13, eo13⟩ := Kd.V_slice HO298.out; subst eo13))
        go_meet
        case rel => exact ⟨_, (true), (by first | rfl | (simp; done) | (simp [*]; done)), H', ⟨by first | omega | exact Nat.le_refl _⟩, ⟨by (with_reducible repeat (first | apply Kd.V_alloc | apply Kd.V_drewN | apply Kd.V_drew)); exact HO295.out⟩, ⟨by (with_reducible repeat (first | apply Kd.V_alloc | apply Kd.V_drewN | apply Kd.V_drew)); exact HO298.out⟩, ⟨by repeat (first | (with_reducible first | exact HB.out | apply below_alloc | apply pw_below_drewN | apply below_drew1) | exact HB.out)⟩⟩
      · rw [if_neg c10] at H
        have c10b0 : ((t296.length : Int) == 0) = false := beq_eq_false_iff_ne.mpr c10
        have c10b1 : ((t296.length : Int) != 0) = true := bne_iff_ne.mpr c10
        have c10b2 : ¬ (t296 = []) := fun h_ => c10 (by rw [h_]; rfl)
        (first | rw [c10b0] | (simp only [i64_w, i32_w]; rw [c10b0]) | skip)
        have H' := Aside0.mk H
        clear H
        obtain ⟨Ao14, co14, eo14⟩ := Kd.V_slice HO295.out
        subst eo14
        go_wp2_with (first | ((with_reducible refine gate_callee (f := 9) rfl ?_); refine goesL_ (some 32) rfl rfl Try.func9 (by kernel_rfl) rfl #[.slice Ao14 t293.length co14] rfl (by (try simp only [List.map_toArray, List.map_cons, List.map_nil]); first | done | rfl | (simp only [List.length_drop, List.length_take]; rfl)) ?_; (with_reducible refine (tree_Good.calls k _ _ t293 true _ ?side1 ?side2 A8.out).mono ?_); (case side1 => repeat (first | exact (Kd.V_reads' HO295.out).2.2 | (with_reducible refine Kd.C_alloc ?_ _) | (with_reducible refine Kd.C_drewN ?_ _) | (with_reducible refine Kd.C_drew ?_))); (case side2 => exact (Kd.V_reads' HO295.out).2.1); rintro e w15 ⟨rfl, hb⟩; refine ⟨_, rfl, ?_⟩; have n0_ := Aside0.mk (Kd.V_below (by (with_reducible repeat (first | apply Kd.V_alloc | apply Kd.V_drewN | apply Kd.V_drew)); exact HO295.out) hb); have n1_ := Aside0.mk (Kd.V_below (by (with_reducible repeat (first | apply Kd.V_alloc | apply Kd.V_drewN | apply Kd.V_drew)); exact HO298.out) hb); have n2_ := Aside0.mk (below_step (by repeat (first | (with_reducible first | exact HB.out | apply below_alloc | apply pw_below_drewN | apply below_drew1) | exact HB.out)) hb); clear HO295; clear HO298; clear HB; have HO295 := n0_; have HO298 := n1_; have HB := n2_; clear n0_ n1_ n2_; (try clear hb); (try clear hb2); (try clear hk); (try clear hi); obtain ⟨Ao16, co16, eo16⟩ := Kd.V_slice HO298.out; subst eo16))
        go_meet
        case rel => exact ⟨_, (((t293.length : Int) == 0)), (by first | rfl | (simp; done) | (simp [*]; done)), H', ⟨by first | omega | exact Nat.le_refl _⟩, ⟨by (with_reducible repeat (first | apply Kd.V_alloc | apply Kd.V_drewN | apply Kd.V_drew)); exact HO295.out⟩, ⟨by (with_reducible repeat (first | apply Kd.V_alloc | apply Kd.V_drewN | apply Kd.V_drew)); exact HO298.out⟩, ⟨by repeat (first | (with_reducible first | exact HB.out | apply below_alloc | apply pw_below_drewN | apply below_drew1) | exact HB.out)⟩⟩
    · replace c9 := Bool.eq_false_iff.mpr c9
      subst c9
      have H1 : (prebendlaw08_TreeMore.j0 k a2 a3 t293 t296 true) = some r := by rw [if_neg (show ¬ (false = true) by decide)] at H; exact H
      clear H
      have H := H1
      clear H1
      have H' := Aside0.mk H
      clear H
      obtain ⟨Ao17, co17, eo17⟩ := Kd.V_slice HO295.out
      subst eo17
      go_wp2_with (first | ((with_reducible refine gate_callee (f := 9) rfl ?_); refine goesL_ (some 32) rfl rfl Try.func9 (by kernel_rfl) rfl #[.slice Ao17 t293.length co17] rfl (by (try simp only [List.map_toArray, List.map_cons, List.map_nil]); first | done | rfl | (simp only [List.length_drop, List.length_take]; rfl)) ?_; (with_reducible refine (tree_Good.calls k _ _ t293 false _ ?side1 ?side2 A8.out).mono ?_); (case side1 => repeat (first | exact (Kd.V_reads' HO295.out).2.2 | (with_reducible refine Kd.C_alloc ?_ _) | (with_reducible refine Kd.C_drewN ?_ _) | (with_reducible refine Kd.C_drew ?_))); (case side2 => exact (Kd.V_reads' HO295.out).2.1); rintro e w18 ⟨rfl, hb⟩; refine ⟨_, rfl, ?_⟩; have n0_ := Aside0.mk (Kd.V_below (by (with_reducible repeat (first | apply Kd.V_alloc | apply Kd.V_drewN | apply Kd.V_drew)); exact HO295.out) hb); have n1_ := Aside0.mk (Kd.V_below (by (with_reducible repeat (first | apply Kd.V_alloc | apply Kd.V_drewN | apply Kd.V_drew)); exact HO298.out) hb); have n2_ := Aside0.mk (below_step (by repeat (first | (with_reducible first | exact HB.out | apply below_alloc | apply pw_below_drewN | apply below_drew1) | exact HB.out)) hb); clear HO295; clear HO298; clear HB; have HO295 := n0_; have HO298 := n1_; have HB := n2_; clear n0_ n1_ n2_; (try clear hb); (try clear hb2); (try clear hk); (try clear hi)))
      go_meet
      case rel => exact ⟨_, (true), (by first | rfl | (simp; done) | (simp [*]; done)), H', ⟨by first | omega | exact Nat.le_refl _⟩, ⟨by (with_reducible repeat (first | apply Kd.V_alloc | apply Kd.V_drewN | apply Kd.V_drew)); exact HO295.out⟩, ⟨by (with_reducible repeat (first | apply Kd.V_alloc | apply Kd.V_drewN | apply Kd.V_drew)); exact HO298.out⟩, ⟨by repeat (first | (with_reducible first | exact HB.out | apply below_alloc | apply pw_below_drewN | apply below_drew1) | exact HB.out)⟩⟩
  case rest =>
    clear HC6
    try clear c1
    try clear p2
    try clear c6
    try clear c7
    try clear c9
    try clear c10
    try clear c10b0
    try clear c10b1
    try clear c10b2
    obtain ⟨kq, x43_5, rfl, HA, HJ5, HO_9, HO_10, HB⟩ := hcut
    cases kq with
    | zero => exact absurd HA.out (by simp [prebendlaw08_TreeMore.j0])
    | succ kj5 =>
      have H := HA.out
      clear HA
      simp only [prebendlaw08_TreeMore.j0] at H
      by_cases c19 : x43_5 = true
      · subst c19
        have H1 : ((prebendlaw08_awake.f kj5).bind fun t300 => (some t300)) = some r := by rw [if_pos rfl] at H; exact H
        clear H
        have H := H1
        clear H1
        replace H := Option.bind_eq_some_iff.mp H
        obtain ⟨t300, A200, H⟩ := H
        replace H : (some t300) = some r := H
        have A20 := Aside0.mk A200
        clear A200
        obtain rfl := Option.some.inj H
        go_wp2_with (first | ((with_reducible refine gate_callee (f := 8) rfl ?_); refine goesL_ (some 44) rfl rfl Try.func8 (by kernel_rfl) rfl #[] rfl (by (try simp only [List.map_toArray, List.map_cons, List.map_nil]); first | done | rfl | (simp only [List.length_drop, List.length_take]; rfl)) ?_; (with_reducible refine (prebendlaw08_awake.calls kj5  t300 _ A20.out).mono ?_); rintro e w21 ⟨rfl, hb⟩; refine ⟨_, rfl, ?_⟩; have n0_ := Aside0.mk (Kd.V_below (by (with_reducible repeat (first | apply Kd.V_alloc | apply Kd.V_drewN | apply Kd.V_drew)); exact HO_9.out) hb); have n1_ := Aside0.mk (Kd.V_below (by (with_reducible repeat (first | apply Kd.V_alloc | apply Kd.V_drewN | apply Kd.V_drew)); exact HO_10.out) hb); have n2_ := Aside0.mk (below_step (by repeat (first | (with_reducible first | exact HB.out | apply below_alloc | apply pw_below_drewN | apply below_drew1) | exact HB.out)) hb); clear HO_9; clear HO_10; clear HB; have HO_9 := n0_; have HO_10 := n1_; have HB := n2_; clear n0_ n1_ n2_; (try clear hb); (try clear hb2); (try clear hk); (try clear hi)))
        go_ret
        exact ⟨by first | rfl | (simp [errW_none, errW_some] <;> rfl) | (simp [*, errW_none, errW_some] <;> rfl), by repeat (first | (with_reducible first | exact HB.out | apply below_alloc | apply pw_below_drewN | apply below_drew1) | exact HB.out)⟩
      · replace c19 := Bool.eq_false_iff.mpr c19
        subst c19
        have H1 : ((some (([] : List (S43)) : List (S43))).bind fun y301 => (if y301.length + t296.length < 2932031007402 then (prebendlaw08_TreeMore.l0 kj5 a2 a3 t293 t296 (y301 ++ t296) 0) else (none))) = some r := by rw [if_neg (show ¬ (false = true) by decide)] at H; exact H
        clear H
        have H := H1
        clear H1
        obtain ⟨y301, hy301⟩ : ∃ y_ : List (S43), y_ = (([] : List (S43))) := ⟨_, rfl⟩
        replace H : (if y301.length + t296.length < 2932031007402 then (prebendlaw08_TreeMore.l0 kj5 a2 a3 t293 t296 (y301 ++ t296) 0) else (none)) = some r := by first | (rw [hy301]; with_reducible exact H) | (have H2_ := (Option.bind_some _ _).symm.trans H; rw [hy301]; with_reducible exact H2_) | (have H2_ := (Option.bind_some _ _).symm.trans H; with_reducible exact H2_) | with_reducible exact H | (rw [hy301]; exact H) | exact H
        have Ny301 := Aside0.mk hy301
        clear hy301
        by_cases c22 : y301.length + t296.length < 2932031007402
        · rw [if_pos c22] at H
          have LMc22 := Aside0.mk c22
          clear c22
          obtain ⟨y304, hy304⟩ : ∃ y_ : List (S43), y_ = (y301 ++ t296) := ⟨_, rfl⟩
          replace H : (prebendlaw08_TreeMore.l0 kj5 a2 a3 t293 t296 y304 0) = some r := by first | (rw [hy304]; with_reducible exact H) | (have H2_ := (Option.bind_some _ _).symm.trans H; rw [hy304]; with_reducible exact H2_) | (have H2_ := (Option.bind_some _ _).symm.trans H; with_reducible exact H2_) | with_reducible exact H | (rw [hy304]; exact H) | exact H
          have Ny304 := Aside0.mk hy304
          clear hy304
          have H' := Aside0.mk H
          clear H
          go_wp2_with (first | ((with_reducible refine gate_dst (N := 45) rfl ?_); (try (refine gate_guard (by rfl) ?_; dsimp only)); refine Kd.R_lit k43 _ 43 ?hg (N := 45) ?hd (xs := ([] : List (S43))) (inner := []) (ok := fun _ => True) (okp := fun _ => True) ?hr ?hp (fun _ hk => hk) trivial (Below.refl _ _) (Nat.le_refl _) (by simp) ?_; (case hd => rfl); (case hg => rfl); (case hr => first | (go_simp; done) | (go_simp; rfl)); (case hp => exact (Reps.none _ _)); intro v302 w23 ho24 hb hg_ hnew_; clear hg_ hnew_; (first | rw [← Ny301.out] at ho24 | (simp only [Int.reduceToNat] at ho24; rw [← Ny301.out] at ho24)); have n0_ := Aside0.mk (Kd.V_elder' (by (with_reducible repeat (first | apply Kd.V_alloc | apply Kd.V_drewN | apply Kd.V_drew)); exact HO_9.out) (Kd.R_base ho24) hb); have n1_ := Aside0.mk (Kd.V_elder' (by (with_reducible repeat (first | apply Kd.V_alloc | apply Kd.V_drewN | apply Kd.V_drew)); exact HO_10.out) (Kd.R_base ho24) hb); have n2_ := Aside0.mk (Kd.R_lower ho24 (below_size (by repeat (first | (with_reducible first | exact HB.out | apply below_alloc | apply pw_below_drewN | apply below_drew1) | exact HB.out)))); have n3_ := Aside0.mk (below_step (by repeat (first | (with_reducible first | exact HB.out | apply below_alloc | apply pw_below_drewN | apply below_drew1) | exact HB.out)) hb); clear HO_9; clear HO_10; clear HB; have HO_9 := n0_; have HO_10 := n1_; have HO303 := n2_; have HB := n3_; clear n0_ n1_ n2_ n3_; clear hb ho24; obtain ⟨Ao26, co26, eo26⟩ := Kd.V_slice HO_10.out; subst eo26) | ((with_reducible refine gate_builtin (b := .append) (xs := #[.tmp 45, .tmp 46]) rfl ?_); (try (refine gate_guard (by rfl) ?_; dsimp only)); at_builtin; refine Kd.R_append_rows k43 (w0 := w) w.heap.size rfl (.tmp 45) (.tmp 46) 23 43 (.agg #[(.int .i64 0), (.int .i64 0), (.int .i64 0), (.int .i64 0), (.int .i64 0), (.int .i64 0)]) 48 rfl Try.underlying23 info43 rfl (by decide) (by omega) v302 y301 t296 _ _ _ (fun _ => True) (fun _ => False) rfl rfl ?aO ?aR (fun _ _ h => h) (fun _ h => h.elim) ?aF ?aB ?aS ?aL ?_; (case aR => repeat (first | exact (Kd.V_reads' HO_10.out).2.2 | (with_reducible refine Kd.C_alloc ?_ _) | (with_reducible refine Kd.C_drewN ?_ _) | (with_reducible refine Kd.C_drew ?_))); (case aB => exact (by repeat (first | (with_reducible first | exact HB.out | apply below_alloc | apply pw_below_drewN | apply below_drew1) | exact HB.out))); (case aF => exact (fun _ _ => trivial)); (case aO => exact (by (with_reducible repeat (first | apply Kd.R_alloc | apply Kd.R_drewN | apply Kd.R_drew)); exact HO303.out)); (case aS => exact (below_size (by repeat (first | (with_reducible first | exact HB.out | apply below_alloc | apply pw_below_drewN | apply below_drew1) | exact HB.out)))); (case aL => have := LMc22.out; omega); intro v305 w25 ho hb hg hat; rw [← Ny304.out] at ho; have n0_ := Aside0.mk (Kd.V_afterv (ok := (fun _ => True)) (by (with_reducible repeat (first | apply Kd.V_alloc | apply Kd.V_drewN | apply Kd.V_drew)); exact HO_9.out) hg hat); have n1_ := Aside0.mk (Kd.V_afterv (ok := (fun _ => True)) (by (with_reducible repeat (first | apply Kd.V_alloc | apply Kd.V_drewN | apply Kd.V_drew)); exact HO_10.out) hg hat); have n2_ := Aside0.mk (hb); have n3_ := Aside0.mk (ho); clear HO_9; clear HO_10; clear HB; clear HO303; have HO_9 := n0_; have HO_10 := n1_; have HB := n2_; have HO306 := n3_; clear n0_ n1_ n2_ n3_; clear ho hb hg hat))
          go_loopg [12] kj5 (fun kq v12 w' => ∃ (x12_2 : Int), v12 = .int .i64 x12_2 ∧ Aside0 (prebendlaw08_TreeMore.l0 kq a2 a3 t293 t296 y304 x12_2 = some r) ∧ Aside0 (kq ≤ kj5) ∧ Aside0 (Kd.V k40 40 w' w.heap.size (fun k_ => some k_ ≠ (v305 : Value).ownBlock) v294 t293) ∧ Aside0 (Kd.V k43 43 w' w.heap.size (fun k_ => some k_ ≠ (v305 : Value).ownBlock) (.slice Ao26 t296.length co26) t296) ∧ Aside0 (Kd.R k43 43 w' w.heap.size (fun _ => True) v305 y304) ∧ Aside0 (Below w.heap.size w w'))
          case atStart => exact ⟨(0), (by first | rfl | (simp; done) | (simp [*]; done)), H', ⟨Nat.le_refl _⟩, ⟨by (with_reducible repeat (first | apply Kd.V_alloc | apply Kd.V_drewN | apply Kd.V_drew)); exact Kd.V_mono HO_9.out (fun _ hk => hk.2)⟩, ⟨by (with_reducible repeat (first | apply Kd.V_alloc | apply Kd.V_drewN | apply Kd.V_drew)); exact Kd.V_mono HO_10.out (fun _ hk => hk.2)⟩, ⟨by (with_reducible repeat (first | apply Kd.R_alloc | apply Kd.R_drewN | apply Kd.R_drew)); exact HO306.out⟩, ⟨by repeat (first | (with_reducible first | exact HB.out | apply below_alloc | apply pw_below_drewN | apply below_drew1) | exact HB.out)⟩⟩
          case round =>
            clear H'
            try clear c1
            try clear c2
            try clear p2
            try clear c6
            try clear c7
            try clear c8
            try clear c9
            try clear c10
            try clear c10b0
            try clear c10b1
            try clear c10b2
            try clear c19
            try clear c22
            try clear p2
            obtain ⟨x12_2, rfl, HA, HK2, HO_9, HO_10, HO_11, HB⟩ := hrel
            cases gk with
            | zero => exact absurd HA.out (by simp [prebendlaw08_TreeMore.l0])
            | succ k2 =>
              have H := HA.out
              clear HA
              simp only [prebendlaw08_TreeMore.l0] at H
              by_cases c27 : x12_2 < (y304.length : Int)
              · rw [if_pos c27] at H
                have c27b0 : decide (x12_2 < (y304.length : Int)) = true := decide_eq_true c27
                clear c27
                by_cases c28 : 0 ≤ x12_2
                · rw [if_pos c28] at H
                  have c28b0 : decide (0 ≤ x12_2) = true := decide_eq_true c28
                  clear c28
                  by_cases c29 : ((rd_T43 y304 x12_2).f4) < 0
                  · rw [if_pos c29] at H
                    have c29b0 : decide (((rd_T43 y304 x12_2).f4) < 0) = true := decide_eq_true c29
                    clear c29
                    replace H := Option.bind_eq_some_iff.mp H
                    obtain ⟨t308, A300, H⟩ := H
                    replace H : (some t308) = some r := H
                    have A30 := Aside0.mk A300
                    clear A300
                    obtain rfl := Option.some.inj H
                    obtain ⟨Ao31, co31, eo31⟩ := Kd.R_slice HO_11.out
                    subst eo31
                    have p307 : 0 ≤ (x12_2 : Int) := of_decide_eq_true (by first | (with_reducible assumption) | assumption)
                    have q307 : x12_2 < (y304.length : Int) := of_decide_eq_true (by first | (with_reducible assumption) | assumption)
                    obtain ⟨ad307, e307, hx307_0, hx307_1, hx307_2, hx307_3, hx307_4, hx307_5⟩ := at_T43 (Kd.R_reads' HO_11.out).2.2 x12_2 p307 q307
                    cases e307
                    replace p307 := eq_true p307
                    replace q307 := eq_true q307
                    go_wp2_with (first | ((with_reducible refine gate_callee (f := 8) rfl ?_); refine goesL_ (some 84) rfl rfl Try.func8 (by kernel_rfl) rfl #[] rfl (by (try simp only [List.map_toArray, List.map_cons, List.map_nil]); first | done | rfl | (simp only [List.length_drop, List.length_take]; rfl)) ?_; (with_reducible refine (prebendlaw08_awake.calls k2  t308 _ A30.out).mono ?_); rintro e w32 ⟨rfl, hb⟩; refine ⟨_, rfl, ?_⟩; have n0_ := Aside0.mk (Kd.V_below (by (with_reducible repeat (first | apply Kd.V_alloc | apply Kd.V_drewN | apply Kd.V_drew)); exact HO_9.out) hb); have n1_ := Aside0.mk (Kd.V_below (by (with_reducible repeat (first | apply Kd.V_alloc | apply Kd.V_drewN | apply Kd.V_drew)); exact HO_10.out) hb); have n2_ := Aside0.mk (Kd.R_below (by (with_reducible repeat (first | apply Kd.R_alloc | apply Kd.R_drewN | apply Kd.R_drew)); exact HO_11.out) hb); have n3_ := Aside0.mk (below_step (by repeat (first | (with_reducible first | exact HB.out | apply below_alloc | apply pw_below_drewN | apply below_drew1) | exact HB.out)) hb); clear HO_9; clear HO_10; clear HO_11; clear HB; have HO_9 := n0_; have HO_10 := n1_; have HO_11 := n2_; have HB := n3_; clear n0_ n1_ n2_ n3_; (try clear hb); (try clear hb2); (try clear hk); (try clear hi)))
                    go_ret
                    exact ⟨by first | rfl | (simp [errW_none, errW_some] <;> rfl) | (simp [*, errW_none, errW_some] <;> rfl), by repeat (first | (with_reducible first | exact HB.out | apply below_alloc | apply pw_below_drewN | apply below_drew1) | exact HB.out)⟩
                  · rw [if_neg c29] at H
                    have c29b0 : decide (((rd_T43 y304 x12_2).f4) < 0) = false := decide_eq_false c29
                    clear c29
                    by_cases c33 : ((rd_T43 y304 x12_2).f5) < 0
                    · rw [if_pos c33] at H
                      have c33b0 : decide (((rd_T43 y304 x12_2).f5) < 0) = true := decide_eq_true c33
                      clear c33
                      replace H := Option.bind_eq_some_iff.mp H
                      obtain ⟨t310, A340, H⟩ := H
                      replace H : (some t310) = some r := H
                      have A34 := Aside0.mk A340
                      clear A340
                      obtain rfl := Option.some.inj H
                      obtain ⟨Ao35, co35, eo35⟩ := Kd.R_slice HO_11.out
                      subst eo35
                      have p307 : 0 ≤ (x12_2 : Int) := of_decide_eq_true (by first | (with_reducible assumption) | assumption)
                      have q307 : x12_2 < (y304.length : Int) := of_decide_eq_true (by first | (with_reducible assumption) | assumption)
                      obtain ⟨ad307, e307, hx307_0, hx307_1, hx307_2, hx307_3, hx307_4, hx307_5⟩ := at_T43 (Kd.R_reads' HO_11.out).2.2 x12_2 p307 q307
                      cases e307
                      replace p307 := eq_true p307
                      replace q307 := eq_true q307
                      have p309 : 0 ≤ (x12_2 : Int) := of_decide_eq_true (by first | (with_reducible assumption) | assumption)
                      have q309 : x12_2 < (y304.length : Int) := of_decide_eq_true (by first | (with_reducible assumption) | assumption)
                      obtain ⟨ad309, e309, hx309_0, hx309_1, hx309_2, hx309_3, hx309_4, hx309_5⟩ := at_T43 (Kd.R_reads' HO_11.out).2.2 x12_2 p309 q309
                      obtain rfl : ad307 = ad309 := (by injection e309)
                      replace p309 := eq_true p309
                      replace q309 := eq_true q309
                      go_wp2_with (first | ((with_reducible refine gate_callee (f := 8) rfl ?_); refine goesL_ (some 84) rfl rfl Try.func8 (by kernel_rfl) rfl #[] rfl (by (try simp only [List.map_toArray, List.map_cons, List.map_nil]); first | done | rfl | (simp only [List.length_drop, List.length_take]; rfl)) ?_; (with_reducible refine (prebendlaw08_awake.calls k2  t310 _ A34.out).mono ?_); rintro e w36 ⟨rfl, hb⟩; refine ⟨_, rfl, ?_⟩; have n0_ := Aside0.mk (Kd.V_below (by (with_reducible repeat (first | apply Kd.V_alloc | apply Kd.V_drewN | apply Kd.V_drew)); exact HO_9.out) hb); have n1_ := Aside0.mk (Kd.V_below (by (with_reducible repeat (first | apply Kd.V_alloc | apply Kd.V_drewN | apply Kd.V_drew)); exact HO_10.out) hb); have n2_ := Aside0.mk (Kd.R_below (by (with_reducible repeat (first | apply Kd.R_alloc | apply Kd.R_drewN | apply Kd.R_drew)); exact HO_11.out) hb); have n3_ := Aside0.mk (below_step (by repeat (first | (with_reducible first | exact HB.out | apply below_alloc | apply pw_below_drewN | apply below_drew1) | exact HB.out)) hb); clear HO_9; clear HO_10; clear HO_11; clear HB; have HO_9 := n0_; have HO_10 := n1_; have HO_11 := n2_; have HB := n3_; clear n0_ n1_ n2_ n3_; (try clear hb); (try clear hb2); (try clear hk); (try clear hi)))
                      go_ret
                      exact ⟨by first | rfl | (simp [errW_none, errW_some] <;> rfl) | (simp [*, errW_none, errW_some] <;> rfl), by repeat (first | (with_reducible first | exact HB.out | apply below_alloc | apply pw_below_drewN | apply below_drew1) | exact HB.out)⟩
                    · rw [if_neg c33] at H
                      have c33b0 : decide (((rd_T43 y304 x12_2).f5) < 0) = false := decide_eq_false c33
                      clear c33
                      by_cases c37 : ((rd_T43 y304 x12_2).f4) > 1099511627776
                      · rw [if_pos c37] at H
                        have c37b0 : decide (1099511627776 < ((rd_T43 y304 x12_2).f4)) = true := decide_eq_true c37
                        clear c37
                        replace H := Option.bind_eq_some_iff.mp H
                        obtain ⟨t312, A380, H⟩ := H
                        replace H : (some t312) = some r := H
                        have A38 := Aside0.mk A380
                        clear A380
                        obtain rfl := Option.some.inj H
                        obtain ⟨Ao39, co39, eo39⟩ := Kd.R_slice HO_11.out
                        subst eo39
                        have p307 : 0 ≤ (x12_2 : Int) := of_decide_eq_true (by first | (with_reducible assumption) | assumption)
                        have q307 : x12_2 < (y304.length : Int) := of_decide_eq_true (by first | (with_reducible assumption) | assumption)
                        obtain ⟨ad307, e307, hx307_0, hx307_1, hx307_2, hx307_3, hx307_4, hx307_5⟩ := at_T43 (Kd.R_reads' HO_11.out).2.2 x12_2 p307 q307
                        cases e307
                        replace p307 := eq_true p307
                        replace q307 := eq_true q307
                        have p309 : 0 ≤ (x12_2 : Int) := of_decide_eq_true (by first | (with_reducible assumption) | assumption)
                        have q309 : x12_2 < (y304.length : Int) := of_decide_eq_true (by first | (with_reducible assumption) | assumption)
                        obtain ⟨ad309, e309, hx309_0, hx309_1, hx309_2, hx309_3, hx309_4, hx309_5⟩ := at_T43 (Kd.R_reads' HO_11.out).2.2 x12_2 p309 q309
                        obtain rfl : ad307 = ad309 := (by injection e309)
                        replace p309 := eq_true p309
                        replace q309 := eq_true q309
                        have p311 : 0 ≤ (x12_2 : Int) := of_decide_eq_true (by first | (with_reducible assumption) | assumption)
                        have q311 : x12_2 < (y304.length : Int) := of_decide_eq_true (by first | (with_reducible assumption) | assumption)
                        obtain ⟨ad311, e311, hx311_0, hx311_1, hx311_2, hx311_3, hx311_4, hx311_5⟩ := at_T43 (Kd.R_reads' HO_11.out).2.2 x12_2 p311 q311
                        obtain rfl : ad307 = ad311 := (by injection e311)
                        replace p311 := eq_true p311
                        replace q311 := eq_true q311
                        go_wp2_with (first | ((with_reducible refine gate_callee (f := 8) rfl ?_); refine goesL_ (some 84) rfl rfl Try.func8 (by kernel_rfl) rfl #[] rfl (by (try simp only [List.map_toArray, List.map_cons, List.map_nil]); first | done | rfl | (simp only [List.length_drop, List.length_take]; rfl)) ?_; (with_reducible refine (prebendlaw08_awake.calls k2  t312 _ A38.out).mono ?_); rintro e w40 ⟨rfl, hb⟩; refine ⟨_, rfl, ?_⟩; have n0_ := Aside0.mk (Kd.V_below (by (with_reducible repeat (first | apply Kd.V_alloc | apply Kd.V_drewN | apply Kd.V_drew)); exact HO_9.out) hb); have n1_ := Aside0.mk (Kd.V_below (by (with_reducible repeat (first | apply Kd.V_alloc | apply Kd.V_drewN | apply Kd.V_drew)); exact HO_10.out) hb); have n2_ := Aside0.mk (Kd.R_below (by (with_reducible repeat (first | apply Kd.R_alloc | apply Kd.R_drewN | apply Kd.R_drew)); exact HO_11.out) hb); have n3_ := Aside0.mk (below_step (by repeat (first | (with_reducible first | exact HB.out | apply below_alloc | apply pw_below_drewN | apply below_drew1) | exact HB.out)) hb); clear HO_9; clear HO_10; clear HO_11; clear HB; have HO_9 := n0_; have HO_10 := n1_; have HO_11 := n2_; have HB := n3_; clear n0_ n1_ n2_ n3_; (try clear hb); (try clear hb2); (try clear hk); (try clear hi)))
                        go_ret
                        exact ⟨by first | rfl | (simp [errW_none, errW_some] <;> rfl) | (simp [*, errW_none, errW_some] <;> rfl), by repeat (first | (with_reducible first | exact HB.out | apply below_alloc | apply pw_below_drewN | apply below_drew1) | exact HB.out)⟩
                      · rw [if_neg c37] at H
                        have c37b0 : decide (1099511627776 < ((rd_T43 y304 x12_2).f4)) = false := decide_eq_false c37
                        clear c37
                        by_cases c41 : ((rd_T43 y304 x12_2).f5) > 1099511627776
                        · rw [if_pos c41] at H
                          have c41b0 : decide (1099511627776 < ((rd_T43 y304 x12_2).f5)) = true := decide_eq_true c41
                          clear c41
                          replace H := Option.bind_eq_some_iff.mp H
                          obtain ⟨t314, A420, H⟩ := H
                          replace H : (some t314) = some r := H
                          have A42 := Aside0.mk A420
                          clear A420
                          obtain rfl := Option.some.inj H
                          obtain ⟨Ao43, co43, eo43⟩ := Kd.R_slice HO_11.out
                          subst eo43
                          have p307 : 0 ≤ (x12_2 : Int) := of_decide_eq_true (by first | (with_reducible assumption) | assumption)
                          have q307 : x12_2 < (y304.length : Int) := of_decide_eq_true (by first | (with_reducible assumption) | assumption)
                          obtain ⟨ad307, e307, hx307_0, hx307_1, hx307_2, hx307_3, hx307_4, hx307_5⟩ := at_T43 (Kd.R_reads' HO_11.out).2.2 x12_2 p307 q307
                          cases e307
                          replace p307 := eq_true p307
                          replace q307 := eq_true q307
                          have p309 : 0 ≤ (x12_2 : Int) := of_decide_eq_true (by first | (with_reducible assumption) | assumption)
                          have q309 : x12_2 < (y304.length : Int) := of_decide_eq_true (by first | (with_reducible assumption) | assumption)
                          obtain ⟨ad309, e309, hx309_0, hx309_1, hx309_2, hx309_3, hx309_4, hx309_5⟩ := at_T43 (Kd.R_reads' HO_11.out).2.2 x12_2 p309 q309
                          obtain rfl : ad307 = ad309 := (by injection e309)
                          replace p309 := eq_true p309
                          replace q309 := eq_true q309
                          have p311 : 0 ≤ (x12_2 : Int) := of_decide_eq_true (by first | (with_reducible assumption) | assumption)
                          have q311 : x12_2 < (y304.length : Int) := of_decide_eq_true (by first | (with_reducible assumption) | assumption)
                          obtain ⟨ad311, e311, hx311_0, hx311_1, hx311_2, hx311_3, hx311_4, hx311_5⟩ := at_T43 (Kd.R_reads' HO_11.out).2.2 x12_2 p311 q311
                          obtain rfl : ad307 = ad311 := (by injection e311)
                          replace p311 := eq_true p311
                          replace q311 := eq_true q311
                          have p313 : 0 ≤ (x12_2 : Int) := of_decide_eq_true (by first | (with_reducible assumption) | assumption)
                          have q313 : x12_2 < (y304.length : Int) := of_decide_eq_true (by first | (with_reducible assumption) | assumption)
                          obtain ⟨ad313, e313, hx313_0, hx313_1, hx313_2, hx313_3, hx313_4, hx313_5⟩ := at_T43 (Kd.R_reads' HO_11.out).2.2 x12_2 p313 q313
                          obtain rfl : ad307 = ad313 := (by injection e313)
                          replace p313 := eq_true p313
                          replace q313 := eq_true q313
                          go_wp2_with (first | ((with_reducible refine gate_callee (f := 8) rfl ?_); refine goesL_ (some 84) rfl rfl Try.func8 (by kernel_rfl) rfl #[] rfl (by (try simp only [List.map_toArray, List.map_cons, List.map_nil]); first | done | rfl | (simp only [List.length_drop, List.length_take]; rfl)) ?_; (with_reducible refine (prebendlaw08_awake.calls k2  t314 _ A42.out).mono ?_); rintro e w44 ⟨rfl, hb⟩; refine ⟨_, rfl, ?_⟩; have n0_ := Aside0.mk (Kd.V_below (by (with_reducible repeat (first | apply Kd.V_alloc | apply Kd.V_drewN | apply Kd.V_drew)); exact HO_9.out) hb); have n1_ := Aside0.mk (Kd.V_below (by (with_reducible repeat (first | apply Kd.V_alloc | apply Kd.V_drewN | apply Kd.V_drew)); exact HO_10.out) hb); have n2_ := Aside0.mk (Kd.R_below (by (with_reducible repeat (first | apply Kd.R_alloc | apply Kd.R_drewN | apply Kd.R_drew)); exact HO_11.out) hb); have n3_ := Aside0.mk (below_step (by repeat (first | (with_reducible first | exact HB.out | apply below_alloc | apply pw_below_drewN | apply below_drew1) | exact HB.out)) hb); clear HO_9; clear HO_10; clear HO_11; clear HB; have HO_9 := n0_; have HO_10 := n1_; have HO_11 := n2_; have HB := n3_; clear n0_ n1_ n2_ n3_; (try clear hb); (try clear hb2); (try clear hk); (try clear hi)))
                          go_ret
                          exact ⟨by first | rfl | (simp [errW_none, errW_some] <;> rfl) | (simp [*, errW_none, errW_some] <;> rfl), by repeat (first | (with_reducible first | exact HB.out | apply below_alloc | apply pw_below_drewN | apply below_drew1) | exact HB.out)⟩
                        · rw [if_neg c41] at H
                          have c41b0 : decide (1099511627776 < ((rd_T43 y304 x12_2).f5)) = false := decide_eq_false c41
                          clear c41
                          have H' := Aside0.mk H
                          clear H
                          obtain ⟨Ao45, co45, eo45⟩ := Kd.R_slice HO_11.out
                          subst eo45
                          have p307 : 0 ≤ (x12_2 : Int) := of_decide_eq_true (by first | (with_reducible assumption) | assumption)
                          have q307 : x12_2 < (y304.length : Int) := of_decide_eq_true (by first | (with_reducible assumption) | assumption)
                          obtain ⟨ad307, e307, hx307_0, hx307_1, hx307_2, hx307_3, hx307_4, hx307_5⟩ := at_T43 (Kd.R_reads' HO_11.out).2.2 x12_2 p307 q307
                          cases e307
                          replace p307 := eq_true p307
                          replace q307 := eq_true q307
                          have p309 : 0 ≤ (x12_2 : Int) := of_decide_eq_true (by first | (with_reducible assumption) | assumption)
                          have q309 : x12_2 < (y304.length : Int) := of_decide_eq_true (by first | (with_reducible assumption) | assumption)
                          obtain ⟨ad309, e309, hx309_0, hx309_1, hx309_2, hx309_3, hx309_4, hx309_5⟩ := at_T43 (Kd.R_reads' HO_11.out).2.2 x12_2 p309 q309
                          obtain rfl : ad307 = ad309 := (by injection e309)
                          replace p309 := eq_true p309
                          replace q309 := eq_true q309
                          have p311 : 0 ≤ (x12_2 : Int) := of_decide_eq_true (by first | (with_reducible assumption) | assumption)
                          have q311 : x12_2 < (y304.length : Int) := of_decide_eq_true (by first | (with_reducible assumption) | assumption)
                          obtain ⟨ad311, e311, hx311_0, hx311_1, hx311_2, hx311_3, hx311_4, hx311_5⟩ := at_T43 (Kd.R_reads' HO_11.out).2.2 x12_2 p311 q311
                          obtain rfl : ad307 = ad311 := (by injection e311)
                          replace p311 := eq_true p311
                          replace q311 := eq_true q311
                          have p313 : 0 ≤ (x12_2 : Int) := of_decide_eq_true (by first | (with_reducible assumption) | assumption)
                          have q313 : x12_2 < (y304.length : Int) := of_decide_eq_true (by first | (with_reducible assumption) | assumption)
                          obtain ⟨ad313, e313, hx313_0, hx313_1, hx313_2, hx313_3, hx313_4, hx313_5⟩ := at_T43 (Kd.R_reads' HO_11.out).2.2 x12_2 p313 q313
                          obtain rfl : ad307 = ad313 := (by injection e313)
                          replace p313 := eq_true p313
                          replace q313 := eq_true q313
                          go_wp2
                          go_roundg k2
                          case measure => have := HJ5.out; have := HK2.out; omega
                          case rel => exact ⟨(wrap64 (x12_2 + 1)), (by first | rfl | (simp; done) | (simp [*]; done)), H', ⟨by have := HJ5.out; have := HK2.out; omega⟩, ⟨by (with_reducible repeat (first | apply Kd.V_alloc | apply Kd.V_drewN | apply Kd.V_drew)); exact HO_9.out⟩, ⟨by (with_reducible repeat (first | apply Kd.V_alloc | apply Kd.V_drewN | apply Kd.V_drew)); exact HO_10.out⟩, ⟨by (with_reducible repeat (first | apply Kd.R_alloc | apply Kd.R_drewN | apply Kd.R_drew)); exact HO_11.out⟩, ⟨by repeat (first | (with_reducible first | exact HB.out | apply below_alloc | apply pw_below_drewN | apply below_drew1) | exact HB.out)⟩⟩
                · rw [if_neg c28] at H
                  exact absurd H (by simp)
              · rw [if_neg c27] at H
                have c27b0 : decide (x12_2 < (y304.length : Int)) = false := decide_eq_false c27
                clear c27
                by_cases c46 : (y304.length : Int) = 0
                · rw [if_pos c46] at H
                  exact absurd H (by simp)
                · rw [if_neg c46] at H
                  have c46b0 : ((y304.length : Int) == 0) = false := beq_eq_false_iff_ne.mpr c46
                  have c46b1 : ((y304.length : Int) != 0) = true := bne_iff_ne.mpr c46
                  have c46b2 : ¬ (y304 = []) := fun h_ => c46 (by rw [h_]; rfl)
                  obtain ⟨ji47, hji47⟩ : ∃ j_ : Int, (Int.tmod (wrap64 (a2)) (y304.length : Int)) = j_ := ⟨_, rfl⟩
                  replace H : (if 0 ≤ (ji47) then (if (ji47) < (y304.length : Int) then (prebendlaw08_TreeMore.l1 k2 a3 t293 t296 (y304.set ((ji47) : Int).toNat (⟨(rd_T43 y304 (ji47)).f0, (rd_T43 y304 (ji47)).f1, (rd_T43 y304 (ji47)).f2, (rd_T43 y304 (ji47)).f3, (rd_T43 y304 (ji47)).f4, wrap64 (((rd_T43 y304 (ji47)).f5) + (wrap64 (a3)))⟩ : S43)) ji47 0) else (none)) else (none)) = some r := by first | (rw [hji47] at H; exact H) | (simp only [hji47] at H ⊢; exact H)
                  by_cases c48 : 0 ≤ (ji47)
                  · rw [if_pos c48] at H
                    have c48b0 : decide (0 ≤ (ji47)) = true := decide_eq_true c48
                    clear c48
                    by_cases c49 : (ji47) < (y304.length : Int)
                    · rw [if_pos c49] at H
                      have c49b0 : decide ((ji47) < (y304.length : Int)) = true := decide_eq_true c49
                      clear c49
                      obtain ⟨y316, hy316⟩ : ∃ y_ : List (S43), y_ = (y304.set ((ji47) : Int).toNat (⟨(rd_T43 y304 (ji47)).f0, (rd_T43 y304 (ji47)).f1, (rd_T43 y304 (ji47)).f2, (rd_T43 y304 (ji47)).f3, (rd_T43 y304 (ji47)).f4, wrap64 (((rd_T43 y304 (ji47)).f5) + (wrap64 (a3)))⟩ : S43)) := ⟨_, rfl⟩
                      replace H : (prebendlaw08_TreeMore.l1 k2 a3 t293 t296 y316 ji47 0) = some r := by first | (rw [hy316]; with_reducible exact H) | (have H2_ := (Option.bind_some _ _).symm.trans H; rw [hy316]; with_reducible exact H2_) | (have H2_ := (Option.bind_some _ _).symm.trans H; with_reducible exact H2_) | with_reducible exact H | (rw [hy316]; exact H) | exact H
                      have Ny316 := Aside0.mk hy316
                      clear hy316
                      have H' := Aside0.mk H
                      clear H
                      obtain ⟨Ao51, co51, eo51⟩ := Kd.R_slice HO_11.out
                      subst eo51
                      have p315 : 0 ≤ ((ji47) : Int) := of_decide_eq_true (by first | (with_reducible assumption) | assumption)
                      have q315 : (ji47) < (y304.length : Int) := of_decide_eq_true (by first | (with_reducible assumption) | assumption)
                      obtain ⟨ad315, e315, hx315_0, hx315_1, hx315_2, hx315_3, hx315_4, hx315_5⟩ := at_T43 (Kd.R_reads' HO_11.out).2.2 (ji47) p315 q315
                      cases e315
                      replace p315 := eq_true p315
                      replace q315 := eq_true q315
                      have p50 : 0 ≤ ((ji47) : Int) := of_decide_eq_true (by first | (with_reducible assumption) | assumption)
                      have q50 : ((ji47) : Int) < ((y304.length : Int) : Int) := of_decide_eq_true (by first | (with_reducible assumption) | assumption)
                      obtain ⟨go50, co50, eo50, gb50, gl50, cl50, HG50⟩ := Kd.R_form HO_11.out (by omega)
                      (first | cases eo50 | (injection eo50 with ea_ en_ ec_; (first | subst ea_ | (injection ea_ with ea_; subst ea_)); subst ec_; clear en_))
                      have GB50 := Aside0.mk gb50
                      have GG50 := Aside0.mk HG50
                      clear gb50 gl50 HG50
                      (first | simp only [add_plain] at hx315_0 | skip)
                      (first | simp only [add_plain] at hx315_1 | skip)
                      (first | simp only [add_plain] at hx315_2 | skip)
                      (first | simp only [add_plain] at hx315_3 | skip)
                      (first | simp only [add_plain] at hx315_4 | skip)
                      (first | simp only [add_plain] at hx315_5 | skip)
                      obtain ⟨ce50, hcl50, hM50, hcc50, hfr50⟩ := Kd.R_elem HO_11.out z43 ((ji47) : Int) p50 q50
                      obtain rfl := k43_openM hM50
                      have hx50_0 : wr.cell? ⟨go50, ((ji47) : Int).toNat * 6, none⟩ = some (.int .i64 ((rd_T43 y304 (ji47)).f0)) := hcc50 0 _ rfl
                      have hx50_1 : wr.cell? ⟨go50, ((ji47) : Int).toNat * 6 + 1, none⟩ = some (.int .i64 ((rd_T43 y304 (ji47)).f1)) := hcc50 1 _ rfl
                      have hx50_2 : wr.cell? ⟨go50, ((ji47) : Int).toNat * 6 + 2, none⟩ = some (.int .i64 ((rd_T43 y304 (ji47)).f2)) := hcc50 2 _ rfl
                      have hx50_3 : wr.cell? ⟨go50, ((ji47) : Int).toNat * 6 + 3, none⟩ = some (.int .i64 ((rd_T43 y304 (ji47)).f3)) := hcc50 3 _ rfl
                      have hx50_4 : wr.cell? ⟨go50, ((ji47) : Int).toNat * 6 + 4, none⟩ = some (.int .i64 ((rd_T43 y304 (ji47)).f4)) := hcc50 4 _ rfl
                      have hx50_5 : wr.cell? ⟨go50, ((ji47) : Int).toNat * 6 + 5, none⟩ = some (.int .i64 ((rd_T43 y304 (ji47)).f5)) := hcc50 5 _ rfl
                      have hf50_0 : wr.frozen? ⟨go50, ((ji47) : Int).toNat * 6, none⟩ = false := hfr50 0
                      have hf50_1 : wr.frozen? ⟨go50, ((ji47) : Int).toNat * 6 + 1, none⟩ = false := hfr50 1
                      have hf50_2 : wr.frozen? ⟨go50, ((ji47) : Int).toNat * 6 + 2, none⟩ = false := hfr50 2
                      have hf50_3 : wr.frozen? ⟨go50, ((ji47) : Int).toNat * 6 + 3, none⟩ = false := hfr50 3
                      have hf50_4 : wr.frozen? ⟨go50, ((ji47) : Int).toNat * 6 + 4, none⟩ = false := hfr50 4
                      have hf50_5 : wr.frozen? ⟨go50, ((ji47) : Int).toNat * 6 + 5, none⟩ = false := hfr50 5
                      clear hcl50 hcc50 hfr50 hM50
                      replace p50 := eq_true p50
                      replace q50 := eq_true q50
                      have HX52 := Aside0.mk (show Kd.R k43 43 wr w.heap.size (fun _ => True) (.slice (some ⟨go50, 0, none⟩) y304.length co51) y304 from (by (with_reducible repeat (first | apply Kd.R_alloc | apply Kd.R_drewN | apply Kd.R_drew)); exact HO_11.out))
                      obtain ⟨ce52, hcl52, hM52, hcc52, hfr52⟩ := Kd.R_elem HX52.out z43 ((ji47) : Int) (of_decide_eq_true (by first | (with_reducible assumption) | assumption)) (by have h_ : ((ji47) : Int) < ((y304.length : Int) : Int) := of_decide_eq_true (by first | (with_reducible assumption) | assumption); first | exact h_ | (have e_ := (Kd.R_reads' HO_11.out).1; omega) | simpa using h_)
                      obtain rfl := k43_openM hM52
                      have HP52 := Kd.R_seg HX52.out ((ji47) : Int) (of_decide_eq_true (by first | (with_reducible assumption) | assumption)) (by have h_ : ((ji47) : Int) < ((y304.length : Int) : Int) := of_decide_eq_true (by first | (with_reducible assumption) | assumption); first | exact h_ | (have e_ := (Kd.R_reads' HO_11.out).1; omega) | simpa using h_) (seg := [.int .i64 (wrap64 (((rd_T43 y304 (ji47)).f5) + (wrap64 (a3))))]) (j := 5) hcl52 hcc52 (show 6 ≤ 6 from by decide) (x' := (⟨(rd_T43 y304 (ji47)).f0, (rd_T43 y304 (ji47)).f1, (rd_T43 y304 (ji47)).f2, (rd_T43 y304 (ji47)).f3, (rd_T43 y304 (ji47)).f4, wrap64 (((rd_T43 y304 (ji47)).f5) + (wrap64 (a3)))⟩ : S43)) (k43_mkM _ _ _ (⟨(rd_T43 y304 (ji47)).f0, (rd_T43 y304 (ji47)).f1, (rd_T43 y304 (ji47)).f2, (rd_T43 y304 (ji47)).f3, (rd_T43 y304 (ji47)).f4, wrap64 (((rd_T43 y304 (ji47)).f5) + (wrap64 (a3)))⟩ : S43) ) (fun _ hk => hk)
                      have hx52_5 := hcc52 5 _ rfl
                      (try simp only [show (k43).sz = 6 from rfl, Nat.mul_one, Nat.add_zero] at hx52_5)
                      have hf52_5 := hfr52 5
                      (try simp only [show (k43).sz = 6 from rfl, Nat.mul_one, Nat.add_zero] at hf52_5)
                      clear hcl52 hcc52 hfr52 hM52
                      go_wp2_with (first | ((with_reducible refine gate_store (t := 3) (p := 99) rfl ?_); refine store_event (t := 3) (p := 99) (v := ?vo_w53) (w1 := (wr.setCell ⟨go50, ((ji47) : Int).toNat * 6 + 5, none⟩ (.int .i64 (wrap64 (((rd_T43 y304 (ji47)).f5) + (wrap64 (a3))))))) ?hg ?ho ?hn ?hr ?_; (case ho => rfl); (case hg => rfl); (case hn => rfl); (case hr => first | (go_simp; done) | (go_simp; rfl)); intro w53 hw; have hg : wr.grownBy w53 (some go50) := (by rw [hw]; exact HP52.2); have hp_ : Kd.R k43 43 w53 w.heap.size (fun _ => True) (.slice (some ⟨go50, 0, none⟩) y304.length co51) y316 := (by rw [hw, Ny316.out]; exact HP52.1); clear HP52; have n0_ := Aside0.mk (Kd.V_afterv (v := (.slice (some ⟨go50, 0, none⟩) y304.length co51)) (v1 := (.slice (some ⟨go50, 0, none⟩) y304.length co51)) (ok := (fun _ => True)) (by (with_reducible repeat (first | apply Kd.V_alloc | apply Kd.V_drewN | apply Kd.V_drew)); exact Kd.V_mono HO_9.out (fun _ hk => ⟨trivial, hk⟩)) hg (.inl rfl)); have n1_ := Aside0.mk (Kd.V_afterv (v := (.slice (some ⟨go50, 0, none⟩) y304.length co51)) (v1 := (.slice (some ⟨go50, 0, none⟩) y304.length co51)) (ok := (fun _ => True)) (by (with_reducible repeat (first | apply Kd.V_alloc | apply Kd.V_drewN | apply Kd.V_drew)); exact Kd.V_mono HO_10.out (fun _ hk => ⟨trivial, hk⟩)) hg (.inl rfl)); have n2_ := Aside0.mk (hp_); have n3_ := Aside0.mk ((by rw [hw]; exact below_set (HB.out) GB50.out : Below w.heap.size w w53)); clear HO_9; clear HO_10; clear HO_11; clear HB; have HO_9 := n0_; have HO_10 := n1_; have HO_11 := n2_; have HB := n3_; clear n0_ n1_ n2_ n3_; clear hg hw hp_))
                      go_loopg [14] k2 (fun kq v14 w' => ∃ (x14_3 : Int), v14 = .int .i64 x14_3 ∧ Aside0 (prebendlaw08_TreeMore.l1 kq a3 t293 t296 y316 ji47 x14_3 = some r) ∧ Aside0 (kq ≤ k2) ∧ Aside0 (Kd.V k40 40 w' w.heap.size (fun k_ => some k_ ≠ ((.slice (some ⟨go50, 0, none⟩) y304.length co51) : Value).ownBlock) v294 t293) ∧ Aside0 (Kd.V k43 43 w' w.heap.size (fun k_ => some k_ ≠ ((.slice (some ⟨go50, 0, none⟩) y304.length co51) : Value).ownBlock) (.slice Ao26 t296.length co26) t296) ∧ Aside0 (Kd.R k43 43 w' w.heap.size (fun _ => True) (.slice (some ⟨go50, 0, none⟩) y304.length co51) y316) ∧ Aside0 (Below w.heap.size w w'))
                      case atStart => exact ⟨(0), (by first | rfl | (simp; done) | (simp [*]; done)), H', ⟨Nat.le_refl _⟩, ⟨by (with_reducible repeat (first | apply Kd.V_alloc | apply Kd.V_drewN | apply Kd.V_drew)); exact Kd.V_mono HO_9.out (fun _ hk => hk.2)⟩, ⟨by (with_reducible repeat (first | apply Kd.V_alloc | apply Kd.V_drewN | apply Kd.V_drew)); exact Kd.V_mono HO_10.out (fun _ hk => hk.2)⟩, ⟨by (with_reducible repeat (first | apply Kd.R_alloc | apply Kd.R_drewN | apply Kd.R_drew)); exact HO_11.out⟩, ⟨by repeat (first | (with_reducible first | exact HB.out | apply below_alloc | apply pw_below_drewN | apply below_drew1) | exact HB.out)⟩⟩
                      case round =>
                        clear H'
                        try clear c1
                        try clear c2
                        try clear p2
                        try clear c3
                        try clear p3
                        try clear q3
                        try clear hx3
                        try clear c4
                        try clear c5
                        try clear p5
                        try clear q5
                        try clear hx5
                        try clear hf5
                        try clear c6
                        try clear p6
                        try clear c7
                        try clear c8
                        try clear c9
                        try clear c10
                        try clear c10b0
                        try clear c10b1
                        try clear c10b2
                        try clear c19
                        try clear c22
                        try clear c27
                        try clear c27b0
                        try clear c28
                        try clear c28b0
                        try clear c29
                        try clear c29b0
                        try clear p30
                        try clear q30
                        try clear hx30
                        try clear p31
                        try clear q31
                        try clear hx31
                        try clear c33
                        try clear c33b0
                        try clear c37
                        try clear c37b0
                        try clear c41
                        try clear c41b0
                        try clear c46
                        try clear c46b0
                        try clear c46b1
                        try clear c46b2
                        try clear c48
                        try clear c48b0
                        try clear c49
                        try clear c49b0
                        try clear c50
                        try clear p50
                        try clear q50
                        try clear hx50
                        try clear hf50
                        try clear c52
                        try clear hx52
                        try clear hf52
                        try clear hx307_0
                        try clear hx307_1
                        try clear hx307_2
                        try clear hx307_3
                        try clear hx307_4
                        try clear hx307_5
                        try clear hx309_0
                        try clear hx309_1
                        try clear hx309_2
                        try clear hx309_3
                        try clear hx309_4
                        try clear hx309_5
                        try clear hx311_0
                        try clear hx311_1
                        try clear hx311_2
                        try clear hx311_3
                        try clear hx311_4
                        try clear hx311_5
                        try clear hx313_0
                        try clear hx313_1
                        try clear hx313_2
                        try clear hx313_3
                        try clear hx313_4
                        try clear hx313_5
                        try clear hx315_0
                        try clear hx315_1
                        try clear hx315_2
                        try clear hx315_3
                        try clear hx315_4
                        try clear hx315_5
                        try clear hx50_0
                        try clear hx50_1
                        try clear hx50_2
                        try clear hx50_3
                        try clear hx50_4
                        try clear hx50_5
                        try clear hx52_5
                        try clear p2
                        try clear p307
                        try clear p309
                        try clear p311
                        try clear p313
                        try clear p315
                        try clear p50
                        try clear q307
                        try clear q309
                        try clear q311
                        try clear q313
                        try clear q315
                        try clear q50
                        obtain ⟨x14_3, rfl, HA, HK3, HO_9, HO_10, HO_11, HB⟩ := hrel
                        have hl11_3 := (Kd.R_reads' HO_11.out).1
                        rw [hl11_3] at HO_11
                        (try simp only [hl11_3])
                        (try simp only [hl11_3] at HO_9)
                        (try simp only [hl11_3] at HO_10)
                        cases gk with
                        | zero => exact absurd HA.out (by simp [prebendlaw08_TreeMore.l1])
                        | succ k3 =>
                          have H := HA.out
                          clear HA
                          simp only [prebendlaw08_TreeMore.l1] at H
                          by_cases c54 : x14_3 < (t293.length : Int)
                          · rw [if_pos c54] at H
                            have c54b0 : decide (x14_3 < (t293.length : Int)) = true := decide_eq_true c54
                            clear c54
                            replace H := Option.bind_eq_some_iff.mp H
                            obtain ⟨⟨t318, t319⟩, A550, H⟩ := H
                            replace H : ((tree_Use.f k3 t293 y316 x14_3).bind fun bt320 => (if 0 ≤ ji47 then (if ji47 < (y316.length : Int) then ((tree_Path.f k3 t293 ((rd_T43 y316 ji47).f0)).bind fun t323 => (prebendlaw08_TreeMore.l2 k3 a3 t293 t296 y316 ji47 x14_3 t318 t319 bt320.1 bt320.2 false t323 0)) else (none)) else (none))) = some r := H
                            have A55 := Aside0.mk A550
                            clear A550
                            replace H := Option.bind_eq_some_iff.mp H
                            obtain ⟨⟨t320, t321⟩, A560, H⟩ := H
                            replace H : (if 0 ≤ ji47 then (if ji47 < (y316.length : Int) then ((tree_Path.f k3 t293 ((rd_T43 y316 ji47).f0)).bind fun t323 => (prebendlaw08_TreeMore.l2 k3 a3 t293 t296 y316 ji47 x14_3 t318 t319 t320 t321 false t323 0)) else (none)) else (none)) = some r := H
                            have A56 := Aside0.mk A560
                            clear A560
                            by_cases c57 : 0 ≤ ji47
                            · rw [if_pos c57] at H
                              have c57b0 : decide (0 ≤ ji47) = true := decide_eq_true c57
                              clear c57
                              by_cases c58 : ji47 < (y316.length : Int)
                              · rw [if_pos c58] at H
                                have c58b0 : decide (ji47 < (y316.length : Int)) = true := decide_eq_true c58
                                clear c58
                                replace H := Option.bind_eq_some_iff.mp H
                                obtain ⟨t323, A590, H⟩ := H
                                replace H : (prebendlaw08_TreeMore.l2 k3 a3 t293 t296 y316 ji47 x14_3 t318 t319 t320 t321 false t323 0) = some r := H
                                have A59 := Aside0.mk A590
                                clear A590
                                have H' := Aside0.mk H
                                clear H
                                obtain ⟨Ao60, co60, eo60⟩ := Kd.V_slice HO_9.out
                                subst eo60
                                go_wp2_with (first | ((with_reducible refine gate_callee (f := 14) rfl ?_); refine goesL_ (some 110) rfl rfl Try.func14 (by kernel_rfl) rfl #[.slice Ao60 t293.length co60, .slice Ao26 t296.length co26, .int .i64 x14_3] rfl (by (try simp only [List.map_toArray, List.map_cons, List.map_nil]); first | done | rfl | (simp only [List.length_drop, List.length_take]; rfl)) ?_; (with_reducible refine (tree_Use.calls k3 _ _ t293 _ _ t296 x14_3 t318 t319 _ ?side1 ?side2 ?side3 ?side4 A55.out).mono ?_); (case side1 => repeat (first | exact (Kd.V_reads' HO_9.out).2.2 | (with_reducible refine Kd.C_alloc ?_ _) | (with_reducible refine Kd.C_drewN ?_ _) | (with_reducible refine Kd.C_drew ?_))); (case side2 => exact (Kd.V_reads' HO_9.out).2.1); (case side3 => repeat (first | exact (Kd.V_reads' HO_10.out).2.2 | (with_reducible refine Kd.C_alloc ?_ _) | (with_reducible refine Kd.C_drewN ?_ _) | (with_reducible refine Kd.C_drew ?_))); (case side4 => exact (Kd.V_reads' HO_10.out).2.1); rintro e w61 ⟨rfl, hb⟩; refine ⟨_, rfl, ?_⟩; have n0_ := Aside0.mk (Kd.V_below (by (with_reducible repeat (first | apply Kd.V_alloc | apply Kd.V_drewN | apply Kd.V_drew)); exact HO_9.out) hb); have n1_ := Aside0.mk (Kd.V_below (by (with_reducible repeat (first | apply Kd.V_alloc | apply Kd.V_drewN | apply Kd.V_drew)); exact HO_10.out) hb); have n2_ := Aside0.mk (Kd.R_below (by (with_reducible repeat (first | apply Kd.R_alloc | apply Kd.R_drewN | apply Kd.R_drew)); exact HO_11.out) hb); have n3_ := Aside0.mk (below_step (by repeat (first | (with_reducible first | exact HB.out | apply below_alloc | apply pw_below_drewN | apply below_drew1) | exact HB.out)) hb); clear HO_9; clear HO_10; clear HO_11; clear HB; have HO_9 := n0_; have HO_10 := n1_; have HO_11 := n2_; have HB := n3_; clear n0_ n1_ n2_ n3_; (try clear hb); (try clear hb2); (try clear hk); (try clear hi)) | ((with_reducible refine gate_callee (f := 14) rfl ?_); refine goesL_ (some 117) rfl rfl Try.func14 (by kernel_rfl) rfl #[.slice Ao60 t293.length co60, .slice (some ⟨go50, 0, none⟩) y316.length co51, .int .i64 x14_3] rfl (by (try simp only [List.map_toArray, List.map_cons, List.map_nil]); first | done | rfl | (simp only [List.length_drop, List.length_take]; rfl)) ?_; (with_reducible refine (tree_Use.calls k3 _ _ t293 _ _ y316 x14_3 t320 t321 _ ?side1 ?side2 ?side3 ?side4 A56.out).mono ?_); (case side1 => repeat (first | exact (Kd.V_reads' HO_9.out).2.2 | (with_reducible refine Kd.C_alloc ?_ _) | (with_reducible refine Kd.C_drewN ?_ _) | (with_reducible refine Kd.C_drew ?_))); (case side2 => exact (Kd.V_reads' HO_9.out).2.1); (case side3 => repeat (first | exact (Kd.R_reads' HO_11.out).2.2 | (with_reducible refine Kd.C_alloc ?_ _) | (with_reducible refine Kd.C_drewN ?_ _) | (with_reducible refine Kd.C_drew ?_))); (case side4 => exact (Kd.R_reads' HO_11.out).2.1); rintro e w62 ⟨rfl, hb⟩; refine ⟨_, rfl, ?_⟩; have n0_ := Aside0.mk (Kd.V_below (by (with_reducible repeat (first | apply Kd.V_alloc | apply Kd.V_drewN | apply Kd.V_drew)); exact HO_9.out) hb); have n1_ := Aside0.mk (Kd.V_below (by (with_reducible repeat (first | apply Kd.V_alloc | apply Kd.V_drewN | apply Kd.V_drew)); exact HO_10.out) hb); have n2_ := Aside0.mk (Kd.R_below (by (with_reducible repeat (first | apply Kd.R_alloc | apply Kd.R_drewN | apply Kd.R_drew)); exact HO_11.out) hb); have n3_ := Aside0.mk (below_step (by repeat (first | (with_reducible first | exact HB.out | apply below_alloc | apply pw_below_drewN | apply below_drew1) | exact HB.out)) hb); clear HO_9; clear HO_10; clear HO_11; clear HB; have HO_9 := n0_; have HO_10 := n1_; have HO_11 := n2_; have HB := n3_; clear n0_ n1_ n2_ n3_; (try clear hb); (try clear hb2); (try clear hk); (try clear hi); have p322 : 0 ≤ (ji47 : Int) := of_decide_eq_true (by first | (with_reducible assumption) | assumption); have q322 : ji47 < (y316.length : Int) := of_decide_eq_true (by first | (with_reducible assumption) | assumption); obtain ⟨ad322, e322, hx322_0, hx322_1, hx322_2, hx322_3, hx322_4, hx322_5⟩ := at_T43 (Kd.R_reads' HO_11.out).2.2 ji47 p322 q322; obtain rfl : (⟨go50, 0, none⟩ : Addr) = ad322 := (by injection e322); (first | simp only [add_plain] at hx322_0 | simp only [add_at] at hx322_0 | simp only [Addr.add, Nat.zero_add] at hx322_0 | skip); (first | simp only [add_plain] at hx322_1 | simp only [add_at] at hx322_1 | simp only [Addr.add, Nat.zero_add] at hx322_1 | skip); (first | simp only [add_plain] at hx322_2 | simp only [add_at] at hx322_2 | simp only [Addr.add, Nat.zero_add] at hx322_2 | skip); (first | simp only [add_plain] at hx322_3 | simp only [add_at] at hx322_3 | simp only [Addr.add, Nat.zero_add] at hx322_3 | skip); (first | simp only [add_plain] at hx322_4 | simp only [add_at] at hx322_4 | simp only [Addr.add, Nat.zero_add] at hx322_4 | skip); (first | simp only [add_plain] at hx322_5 | simp only [add_at] at hx322_5 | simp only [Addr.add, Nat.zero_add] at hx322_5 | skip); replace p322 := eq_true p322; replace q322 := eq_true q322) | ((with_reducible refine gate_callee (f := 12) rfl ?_); refine goesL_ (some 126) rfl rfl Try.func12 (by kernel_rfl) rfl #[.slice Ao60 t293.length co60, .int .i64 ((rd_T43 y316 ji47).f0)] rfl (by (try simp only [List.map_toArray, List.map_cons, List.map_nil]); first | done | (simp only [hji47]; rfl) | rfl | (simp only [List.length_drop, List.length_take]; rfl)) ?_; (with_reducible refine (tree_Path.calls k3 _ _ t293 ((rd_T43 y316 ji47).f0) t323 _ ?side1 ?side2 A59.out).mono ?_); (case side1 => repeat (first | exact (Kd.V_reads' HO_9.out).2.2 | (with_reducible refine Kd.C_alloc ?_ _) | (with_reducible refine Kd.C_drewN ?_ _) | (with_reducible refine Kd.C_drew ?_))); (case side2 => exact (Kd.V_reads' HO_9.out).2.1); rintro e w63 ⟨v324, rfl, ho0, hb⟩; refine ⟨_, rfl, ?_⟩; have n0_ := Aside0.mk (Kd.V_below (by (with_reducible repeat (first | apply Kd.V_alloc | apply Kd.V_drewN | apply Kd.V_drew)); exact HO_9.out) hb); have n1_ := Aside0.mk (Kd.V_below (by (with_reducible repeat (first | apply Kd.V_alloc | apply Kd.V_drewN | apply Kd.V_drew)); exact HO_10.out) hb); have n2_ := Aside0.mk (Kd.R_below (by (with_reducible repeat (first | apply Kd.R_alloc | apply Kd.R_drewN | apply Kd.R_drew)); exact HO_11.out) hb); have n3_ := Aside0.mk (Kd.V_lower (Kd.V_mono (ok' := fun k_ => some k_ ≠ (.slice (some ⟨go50, 0, none⟩) y316.length co51 : Value).ownBlock) ho0 (fun k_ hk_ => (Kd.fresh' (Kd.R_lt (by (with_reducible repeat (first | apply Kd.R_alloc | apply Kd.R_drewN | apply Kd.R_drew)); exact HO_11.out)) k_ hk_))) (below_size (by repeat (first | (with_reducible first | exact HB.out | apply below_alloc | apply pw_below_drewN | apply below_drew1) | exact HB.out)))); have n4_ := Aside0.mk (below_step (by repeat (first | (with_reducible first | exact HB.out | apply below_alloc | apply pw_below_drewN | apply below_drew1) | exact HB.out)) hb); clear HO_9; clear HO_10; clear HO_11; clear HB; have HO_9 := n0_; have HO_10 := n1_; have HO_11 := n2_; have HO325 := n3_; have HB := n4_; clear n0_ n1_ n2_ n3_ n4_; (try clear hb); (try clear hb2); (try clear hk); (try clear hi); (try clear ho0)))
                                go_loopg [19, 21] k3 (fun kq v19 v21 w' => ∃ (x19_4 : Bool) (x21_4 : Int), v19 = .bool x19_4 ∧ v21 = .int .i64 x21_4 ∧ Aside0 (prebendlaw08_TreeMore.l2 kq a3 t293 t296 y316 ji47 x14_3 t318 t319 t320 t321 x19_4 t323 x21_4 = some r) ∧ Aside0 (kq ≤ k3) ∧ Aside0 (Kd.V k40 40 w' w.heap.size (fun k_ => some k_ ≠ ((.slice (some ⟨go50, 0, none⟩) y316.length co51) : Value).ownBlock) (.slice Ao60 t293.length co60) t293) ∧ Aside0 (Kd.V k43 43 w' w.heap.size (fun k_ => some k_ ≠ ((.slice (some ⟨go50, 0, none⟩) y316.length co51) : Value).ownBlock) (.slice Ao26 t296.length co26) t296) ∧ Aside0 (Kd.R k43 43 w' w.heap.size (fun _ => True) (.slice (some ⟨go50, 0, none⟩) y316.length co51) y316) ∧ Aside0 (Kd.V (Kd.int .i64) 3 w' w.heap.size (fun k_ => some k_ ≠ ((.slice (some ⟨go50, 0, none⟩) y316.length co51) : Value).ownBlock) v324 t323) ∧ Aside0 (Below w.heap.size w w'))
                                case atStart => exact ⟨(false), (0), (by first | rfl | (simp; done) | (simp [*]; done)), (by first | rfl | (simp; done) | (simp [*]; done)), H', ⟨Nat.le_refl _⟩, ⟨by (try simp only [hl11_3]); (with_reducible repeat (first | apply Kd.V_alloc | apply Kd.V_drewN | apply Kd.V_drew)); exact HO_9.out⟩, ⟨by (try simp only [hl11_3]); (with_reducible repeat (first | apply Kd.V_alloc | apply Kd.V_drewN | apply Kd.V_drew)); exact HO_10.out⟩, ⟨by (try simp only [hl11_3]); (with_reducible repeat (first | apply Kd.R_alloc | apply Kd.R_drewN | apply Kd.R_drew)); exact HO_11.out⟩, ⟨by (try simp only [hl11_3]); (with_reducible repeat (first | apply Kd.V_alloc | apply Kd.V_drewN | apply Kd.V_drew)); exact HO325.out⟩, ⟨by repeat (first | (with_reducible first | exact HB.out | apply below_alloc | apply pw_below_drewN | apply below_drew1) | exact HB.out)⟩⟩
                                case round =>
                                  clear H'
                                  try clear c1
                                  try clear c2
                                  try clear p2
                                  try clear c3
                                  try clear p3
                                  try clear q3
                                  try clear hx3
                                  try clear c4
                                  try clear c5
                                  try clear p5
                                  try clear q5
                                  try clear hx5
                                  try clear hf5
                                  try clear c6
                                  try clear p6
                                  try clear c7
                                  try clear c8
                                  try clear c9
                                  try clear c10
                                  try clear c10b0
                                  try clear c10b1
                                  try clear c10b2
                                  try clear c12
                                  try clear c14
                                  try clear c19
                                  try clear c22
                                  try clear c27
                                  try clear c27b0
                                  try clear c28
                                  try clear c28b0
                                  try clear c29
                                  try clear c29b0
                                  try clear p30
                                  try clear q30
                                  try clear hx30
                                  try clear p31
                                  try clear q31
                                  try clear hx31
                                  try clear p32
                                  try clear q32
                                  try clear hx32
                                  try clear c33
                                  try clear c33b0
                                  try clear c37
                                  try clear c37b0
                                  try clear c41
                                  try clear c41b0
                                  try clear c46
                                  try clear c46b0
                                  try clear c46b1
                                  try clear c46b2
                                  try clear c48
                                  try clear c48b0
                                  try clear c49
                                  try clear c49b0
                                  try clear c50
                                  try clear p50
                                  try clear q50
                                  try clear hx50
                                  try clear hf50
                                  try clear c52
                                  try clear hx52
                                  try clear hf52
                                  try clear c54
                                  try clear c54b0
                                  try clear c57
                                  try clear c57b0
                                  try clear c58
                                  try clear c58b0
                                  try clear hx307_0
                                  try clear hx307_1
                                  try clear hx307_2
                                  try clear hx307_3
                                  try clear hx307_4
                                  try clear hx307_5
                                  try clear hx309_0
                                  try clear hx309_1
                                  try clear hx309_2
                                  try clear hx309_3
                                  try clear hx309_4
                                  try clear hx309_5
                                  try clear hx311_0
                                  try clear hx311_1
                                  try clear hx311_2
                                  try clear hx311_3
                                  try clear hx311_4
                                  try clear hx311_5
                                  try clear hx313_0
                                  try clear hx313_1
                                  try clear hx313_2
                                  try clear hx313_3
                                  try clear hx313_4
                                  try clear hx313_5
                                  try clear hx315_0
                                  try clear hx315_1
                                  try clear hx315_2
                                  try clear hx315_3
                                  try clear hx315_4
                                  try clear hx315_5
                                  try clear hx322_0
                                  try clear hx322_1
                                  try clear hx322_2
                                  try clear hx322_3
                                  try clear hx322_4
                                  try clear hx322_5
                                  try clear hx50_0
                                  try clear hx50_1
                                  try clear hx50_2
                                  try clear hx50_3
                                  try clear hx50_4
                                  try clear hx50_5
                                  try clear hx52_5
                                  try clear p2
                                  try clear p3
                                  try clear p30
                                  try clear p307
                                  try clear p309
                                  try clear p31
                                  try clear p311
                                  try clear p313
                                  try clear p315
                                  try clear p322
                                  try clear p5
                                  try clear p50
                                  try clear p6
                                  try clear q3
                                  try clear q30
                                  try clear q307
                                  try clear q309
                                  try clear q31
                                  try clear q311
                                  try clear q313
                                  try clear q315
                                  try clear q322
                                  try clear q5
                                  try clear q50
                                  obtain ⟨x19_4, x21_4, rfl, rfl, HA, HK4, HO_9, HO_10, HO_11, HO_20, HB⟩ := hrel
                                  cases gk with
                                  | zero => exact absurd HA.out (by simp [prebendlaw08_TreeMore.l2])
                                  | succ k4 =>
                                    have H := HA.out
                                    clear HA
                                    simp only [prebendlaw08_TreeMore.l2] at H
                                    by_cases c64 : x21_4 < (t323.length : Int)
                                    · rw [if_pos c64] at H
                                      have c64b0 : decide (x21_4 < (t323.length : Int)) = true := decide_eq_true c64
                                      clear c64
                                      by_cases c65 : x19_4 = true
                                      · subst c65
                                        have H1 : (prebendlaw08_TreeMore.l2 k4 a3 t293 t296 y316 ji47 x14_3 t318 t319 t320 t321 true t323 (wrap64 (x21_4 + 1))) = some r := by rw [if_pos rfl] at H; exact H
                                        clear H
                                        have H := H1
                                        clear H1
                                        have H' := Aside0.mk H
                                        clear H
                                        obtain ⟨Ao66, co66, eo66⟩ := Kd.V_slice HO_20.out
                                        subst eo66
                                        go_wp2
                                        go_roundg k4
                                        case measure => have := HJ5.out; have := HK2.out; have := HK3.out; have := HK4.out; omega
                                        case rel => exact ⟨(true), (wrap64 (x21_4 + 1)), (by first | rfl | (simp; done) | (simp [*]; done)), (by first | rfl | (simp; done) | (simp [*]; done)), H', ⟨by have := HJ5.out; have := HK2.out; have := HK3.out; have := HK4.out; omega⟩, ⟨by (try simp only [hl11_3]); (with_reducible repeat (first | apply Kd.V_alloc | apply Kd.V_drewN | apply Kd.V_drew)); exact HO_9.out⟩, ⟨by (try simp only [hl11_3]); (with_reducible repeat (first | apply Kd.V_alloc | apply Kd.V_drewN | apply Kd.V_drew)); exact HO_10.out⟩, ⟨by (try simp only [hl11_3]); (with_reducible repeat (first | apply Kd.R_alloc | apply Kd.R_drewN | apply Kd.R_drew)); exact HO_11.out⟩, ⟨by (try simp only [hl11_3]); (with_reducible repeat (first | apply Kd.V_alloc | apply Kd.V_drewN | apply Kd.V_drew)); exact HO_20.out⟩, ⟨by repeat (first | (with_reducible first | exact HB.out | apply below_alloc | apply pw_below_drewN | apply below_drew1) | exact HB.out)⟩⟩
                                      · replace c65 := Bool.eq_false_iff.mpr c65
                                        subst c65
                                        have H1 : (if 0 ≤ x21_4 then (prebendlaw08_TreeMore.l2 k4 a3 t293 t296 y316 ji47 x14_3 t318 t319 t320 t321 ((rd t323 x21_4) == x14_3) t323 (wrap64 (x21_4 + 1))) else (none)) = some r := by rw [if_neg (show ¬ (false = true) by decide)] at H; exact H
                                        clear H
                                        have H := H1
                                        clear H1
                                        by_cases c67 : 0 ≤ x21_4
                                        · rw [if_pos c67] at H
                                          have c67b0 : decide (0 ≤ x21_4) = true := decide_eq_true c67
                                          clear c67
                                          have H' := Aside0.mk H
                                          clear H
                                          obtain ⟨Ao68, co68, eo68⟩ := Kd.V_slice HO_20.out
                                          subst eo68
                                          have p326 : 0 ≤ (x21_4 : Int) := of_decide_eq_true (by first | (with_reducible assumption) | assumption)
                                          have q326 : x21_4 < (t323.length : Int) := of_decide_eq_true (by first | (with_reducible assumption) | assumption)
                                          obtain ⟨ad326, e326, hx326_0⟩ := Kd.at_int (Kd.V_reads' HO_20.out).2.2 x21_4 p326 q326
                                          cases e326
                                          replace p326 := eq_true p326
                                          replace q326 := eq_true q326
                                          go_wp2
                                          go_roundg k4
                                          case measure => have := HJ5.out; have := HK2.out; have := HK3.out; have := HK4.out; omega
                                          case rel => exact ⟨(((rd t323 x21_4) == x14_3)), (wrap64 (x21_4 + 1)), (by first | rfl | (simp; done) | (simp [*]; done)), (by first | rfl | (simp; done) | (simp [*]; done)), H', ⟨by have := HJ5.out; have := HK2.out; have := HK3.out; have := HK4.out; omega⟩, ⟨by (try simp only [hl11_3]); (with_reducible repeat (first | apply Kd.V_alloc | apply Kd.V_drewN | apply Kd.V_drew)); exact HO_9.out⟩, ⟨by (try simp only [hl11_3]); (with_reducible repeat (first | apply Kd.V_alloc | apply Kd.V_drewN | apply Kd.V_drew)); exact HO_10.out⟩, ⟨by (try simp only [hl11_3]); (with_reducible repeat (first | apply Kd.R_alloc | apply Kd.R_drewN | apply Kd.R_drew)); exact HO_11.out⟩, ⟨by (try simp only [hl11_3]); (with_reducible repeat (first | apply Kd.V_alloc | apply Kd.V_drewN | apply Kd.V_drew)); exact HO_20.out⟩, ⟨by repeat (first | (with_reducible first | exact HB.out | apply below_alloc | apply pw_below_drewN | apply below_drew1) | exact HB.out)⟩⟩
                                        · rw [if_neg c67] at H
                                          exact absurd H (by simp)
                                    · rw [if_neg c64] at H
                                      have c64b0 : decide (x21_4 < (t323.length : Int)) = false := decide_eq_false c64
                                      clear c64
                                      have HC69 := Aside0.mk H
                                      clear H
                                      obtain ⟨Ao70, co70, eo70⟩ := Kd.V_slice HO_20.out
                                      subst eo70
                                      go_upto_region 23 with (fail)
                                      go_cut [167] (fun v167 wc => ∃ (kq : Nat) (x167_68 : Bool), v167 = .bool x167_68 ∧ Aside0 (prebendlaw08_TreeMore.j4 kq a3 t293 t296 y316 ji47 x14_3 t318 x167_68 = some r) ∧ Aside0 (kq ≤ k4) ∧ Aside0 (Kd.V k40 40 wc w.heap.size (fun k_ => some k_ ≠ ((.slice (some ⟨go50, 0, none⟩) y316.length co51) : Value).ownBlock) (.slice Ao60 t293.length co60) t293) ∧ Aside0 (Kd.V k43 43 wc w.heap.size (fun k_ => some k_ ≠ ((.slice (some ⟨go50, 0, none⟩) y316.length co51) : Value).ownBlock) (.slice Ao26 t296.length co26) t296) ∧ Aside0 (Kd.R k43 43 wc w.heap.size (fun _ => True) (.slice (some ⟨go50, 0, none⟩) y316.length co51) y316) ∧ Aside0 (Below w.heap.size w wc))
                                      case first =>
                                        have H := HC69.out
                                        clear HC69
                                        by_cases c71 : t319 = 0
                                        · rw [if_pos c71] at H
                                          have c71b0 : (t319 == 0) = true := beq_iff_eq.mpr c71
                                          have c71b1 : (t319 != 0) = false := bne_eq_false_iff_eq.mpr c71
                                          clear c71
                                          (first | rw [c71b0] | (simp only [i64_w, i32_w]; rw [c71b0]) | skip)
                                          by_cases c72 : t321 = 0
                                          · rw [if_pos c72] at H
                                            have c72b0 : (t321 == 0) = true := beq_iff_eq.mpr c72
                                            have c72b1 : (t321 != 0) = false := bne_eq_false_iff_eq.mpr c72
                                            clear c72
                                            by_cases c73 : x19_4 = true
                                            · subst c73
                                              have H1 : (if t320 = (wrap64 (t318 + (wrap64 (a3)))) then (prebendlaw08_TreeMore.j4 k4 a3 t293 t296 y316 ji47 x14_3 t318 false) else (prebendlaw08_TreeMore.j4 k4 a3 t293 t296 y316 ji47 x14_3 t318 true)) = some r := by rw [if_pos rfl] at H; exact H
                                              clear H
                                              have H := H1
                                              clear H1
                                              by_cases c74 : t320 = (wrap64 (t318 + (wrap64 (a3))))
                                              · rw [if_pos c74] at H
                                                have c74b0 : (t320 == (wrap64 (t318 + (wrap64 (a3))))) = true := beq_iff_eq.mpr c74
                                                have c74b1 : (t320 != (wrap64 (t318 + (wrap64 (a3))))) = false := bne_eq_false_iff_eq.mpr c74
                                                clear c74
                                                have H' := Aside0.mk H
                                                clear H
                                                go_wp2
                                                go_meet
                                                case rel => exact ⟨_, (false), (by first | rfl | (simp; done) | (simp [*]; done)), H', ⟨by have := HJ5.out; have := HK2.out; have := HK3.out; have := HK4.out; first | omega | exact Nat.le_refl _⟩, ⟨by (try simp only [hl11_3]); (with_reducible repeat (first | apply Kd.V_alloc | apply Kd.V_drewN | apply Kd.V_drew)); exact HO_9.out⟩, ⟨by (try simp only [hl11_3]); (with_reducible repeat (first | apply Kd.V_alloc | apply Kd.V_drewN | apply Kd.V_drew)); exact HO_10.out⟩, ⟨by (try simp only [hl11_3]); (with_reducible repeat (first | apply Kd.R_alloc | apply Kd.R_drewN | apply Kd.R_drew)); exact HO_11.out⟩, ⟨by repeat (first | (with_reducible first | exact HB.out | apply below_alloc | apply pw_below_drewN | apply below_drew1) | exact HB.out)⟩⟩
                                              · rw [if_neg c74] at H
                                                have c74b0 : (t320 == (wrap64 (t318 + (wrap64 (a3))))) = false := beq_eq_false_iff_ne.mpr c74
                                                have c74b1 : (t320 != (wrap64 (t318 + (wrap64 (a3))))) = true := bne_iff_ne.mpr c74
                                                have H' := Aside0.mk H
                                                clear H
                                                go_wp2
                                                go_meet
                                                case rel => exact ⟨_, (true), (by first | rfl | (simp; done) | (simp [*]; done)), H', ⟨by have := HJ5.out; have := HK2.out; have := HK3.out; have := HK4.out; first | omega | exact Nat.le_refl _⟩, ⟨by (try simp only [hl11_3]); (with_reducible repeat (first | apply Kd.V_alloc | apply Kd.V_drewN | apply Kd.V_drew)); exact HO_9.out⟩, ⟨by (try simp only [hl11_3]); (with_reducible repeat (first | apply Kd.V_alloc | apply Kd.V_drewN | apply Kd.V_drew)); exact HO_10.out⟩, ⟨by (try simp only [hl11_3]); (with_reducible repeat (first | apply Kd.R_alloc | apply Kd.R_drewN | apply Kd.R_drew)); exact HO_11.out⟩, ⟨by repeat (first | (with_reducible first | exact HB.out | apply below_alloc | apply pw_below_drewN | apply below_drew1) | exact HB.out)⟩⟩
                                            · replace c73 := Bool.eq_false_iff.mpr c73
                                              subst c73
                                              have H1 : (prebendlaw08_TreeMore.j4 k4 a3 t293 t296 y316 ji47 x14_3 t318 (t320 != t318)) = some r := by rw [if_neg (show ¬ (false = true) by decide)] at H; exact H
                                              clear H
                                              have H := H1
                                              clear H1
                                              have H' := Aside0.mk H
                                              clear H
                                              go_wp2
                                              go_meet
                                              case rel => exact ⟨_, ((t320 != t318)), (by first | rfl | (simp; done) | (simp [*]; done)), H', ⟨by have := HJ5.out; have := HK2.out; have := HK3.out; have := HK4.out; first | omega | exact Nat.le_refl _⟩, ⟨by (try simp only [hl11_3]); (with_reducible repeat (first | apply Kd.V_alloc | apply Kd.V_drewN | apply Kd.V_drew)); exact HO_9.out⟩, ⟨by (try simp only [hl11_3]); (with_reducible repeat (first | apply Kd.V_alloc | apply Kd.V_drewN | apply Kd.V_drew)); exact HO_10.out⟩, ⟨by (try simp only [hl11_3]); (with_reducible repeat (first | apply Kd.R_alloc | apply Kd.R_drewN | apply Kd.R_drew)); exact HO_11.out⟩, ⟨by repeat (first | (with_reducible first | exact HB.out | apply below_alloc | apply pw_below_drewN | apply below_drew1) | exact HB.out)⟩⟩
                                          · rw [if_neg c72] at H
                                            have c72b0 : (t321 == 0) = false := beq_eq_false_iff_ne.mpr c72
                                            have c72b1 : (t321 != 0) = true := bne_iff_ne.mpr c72
                                            have H' := Aside0.mk H
                                            clear H
                                            go_wp2
                                            go_meet
                                            case rel => exact ⟨_, (true), (by first | rfl | (simp; done) | (simp [*]; done)), H', ⟨by have := HJ5.out; have := HK2.out; have := HK3.out; have := HK4.out; first | omega | exact Nat.le_refl _⟩, ⟨by (try simp only [hl11_3]); (with_reducible repeat (first | apply Kd.V_alloc | apply Kd.V_drewN | apply Kd.V_drew)); exact HO_9.out⟩, ⟨by (try simp only [hl11_3]); (with_reducible repeat (first | apply Kd.V_alloc | apply Kd.V_drewN | apply Kd.V_drew)); exact HO_10.out⟩, ⟨by (try simp only [hl11_3]); (with_reducible repeat (first | apply Kd.R_alloc | apply Kd.R_drewN | apply Kd.R_drew)); exact HO_11.out⟩, ⟨by repeat (first | (with_reducible first | exact HB.out | apply below_alloc | apply pw_below_drewN | apply below_drew1) | exact HB.out)⟩⟩
                                        · rw [if_neg c71] at H
                                          have c71b0 : (t319 == 0) = false := beq_eq_false_iff_ne.mpr c71
                                          have c71b1 : (t319 != 0) = true := bne_iff_ne.mpr c71
                                          (first | rw [c71b0] | (simp only [i64_w, i32_w]; rw [c71b0]) | skip)
                                          have H' := Aside0.mk H
                                          clear H
                                          go_wp2
                                          go_meet
                                          case rel => exact ⟨_, (true), (by first | rfl | (simp; done) | (simp [*]; done)), H', ⟨by have := HJ5.out; have := HK2.out; have := HK3.out; have := HK4.out; first | omega | exact Nat.le_refl _⟩, ⟨by (try simp only [hl11_3]); (with_reducible repeat (first | apply Kd.V_alloc | apply Kd.V_drewN | apply Kd.V_drew)); exact HO_9.out⟩, ⟨by (try simp only [hl11_3]); (with_reducible repeat (first | apply Kd.V_alloc | apply Kd.V_drewN | apply Kd.V_drew)); exact HO_10.out⟩, ⟨by (try simp only [hl11_3]); (with_reducible repeat (first | apply Kd.R_alloc | apply Kd.R_drewN | apply Kd.R_drew)); exact HO_11.out⟩, ⟨by repeat (first | (with_reducible first | exact HB.out | apply below_alloc | apply pw_below_drewN | apply below_drew1) | exact HB.out)⟩⟩
                                      case rest =>
                                        clear HC69
                                        try clear c1
                                        try clear c2
                                        try clear p2
                                        try clear c3
                                        try clear p3
                                        try clear q3
                                        try clear hx3
                                        try clear c4
                                        try clear c5
                                        try clear p5
                                        try clear q5
                                        try clear hx5
                                        try clear hf5
                                        try clear c6
                                        try clear p6
                                        try clear c7
                                        try clear c8
                                        try clear c9
                                        try clear c10
                                        try clear c10b0
                                        try clear c10b1
                                        try clear c10b2
                                        try clear c12
                                        try clear c14
                                        try clear c19
                                        try clear c22
                                        try clear c27
                                        try clear c27b0
                                        try clear c28
                                        try clear c28b0
                                        try clear c29
                                        try clear c29b0
                                        try clear p30
                                        try clear q30
                                        try clear hx30
                                        try clear p31
                                        try clear q31
                                        try clear hx31
                                        try clear p32
                                        try clear q32
                                        try clear hx32
                                        try clear c33
                                        try clear c33b0
                                        try clear c37
                                        try clear c37b0
                                        try clear c41
                                        try clear c41b0
                                        try clear c46
                                        try clear c46b0
                                        try clear c46b1
                                        try clear c46b2
                                        try clear c48
                                        try clear c48b0
                                        try clear c49
                                        try clear c49b0
                                        try clear c50
                                        try clear p50
                                        try clear q50
                                        try clear hx50
                                        try clear hf50
                                        try clear c52
                                        try clear hx52
                                        try clear hf52
                                        try clear c54
                                        try clear c54b0
                                        try clear c57
                                        try clear c57b0
                                        try clear c58
                                        try clear c58b0
                                        try clear c64
                                        try clear c64b0
                                        try clear p64
                                        try clear c65
                                        try clear c67
                                        try clear c67b0
                                        try clear c71
                                        try clear c71b0
                                        try clear c71b1
                                        try clear c72
                                        try clear c72b0
                                        try clear c72b1
                                        try clear c73
                                        try clear c74
                                        try clear c74b0
                                        try clear c74b1
                                        try clear hx307_0
                                        try clear hx307_1
                                        try clear hx307_2
                                        try clear hx307_3
                                        try clear hx307_4
                                        try clear hx307_5
                                        try clear hx309_0
                                        try clear hx309_1
                                        try clear hx309_2
                                        try clear hx309_3
                                        try clear hx309_4
                                        try clear hx309_5
                                        try clear hx311_0
                                        try clear hx311_1
                                        try clear hx311_2
                                        try clear hx311_3
                                        try clear hx311_4
                                        try clear hx311_5
                                        try clear hx313_0
                                        try clear hx313_1
                                        try clear hx313_2
                                        try clear hx313_3
                                        try clear hx313_4
                                        try clear hx313_5
                                        try clear hx315_0
                                        try clear hx315_1
                                        try clear hx315_2
                                        try clear hx315_3
                                        try clear hx315_4
                                        try clear hx315_5
                                        try clear hx322_0
                                        try clear hx322_1
                                        try clear hx322_2
                                        try clear hx322_3
                                        try clear hx322_4
                                        try clear hx322_5
                                        try clear hx326_0
                                        try clear hx50_0
                                        try clear hx50_1
                                        try clear hx50_2
                                        try clear hx50_3
                                        try clear hx50_4
                                        try clear hx50_5
                                        try clear hx52_5
                                        try clear p2
                                        try clear p3
                                        try clear p30
                                        try clear p307
                                        try clear p309
                                        try clear p31
                                        try clear p311
                                        try clear p313
                                        try clear p315
                                        try clear p32
                                        try clear p322
                                        try clear p326
                                        try clear p5
                                        try clear p50
                                        try clear p6
                                        try clear q3
                                        try clear q30
                                        try clear q307
                                        try clear q309
                                        try clear q31
                                        try clear q311
                                        try clear q313
                                        try clear q315
                                        try clear q32
                                        try clear q322
                                        try clear q326
                                        try clear q5
                                        try clear q50
                                        obtain ⟨kq, x167_68, rfl, HA, HJ68, HO_9, HO_10, HO_11, HB⟩ := hcut
                                        cases kq with
                                        | zero => exact absurd HA.out (by simp [prebendlaw08_TreeMore.j4])
                                        | succ kj68 =>
                                          have H := HA.out
                                          clear HA
                                          simp only [prebendlaw08_TreeMore.j4] at H
                                          by_cases c75 : x167_68 = true
                                          · subst c75
                                            have H1 : (some false) = some r := by rw [if_pos rfl] at H; exact H
                                            clear H
                                            have H := H1
                                            clear H1
                                            obtain rfl := Option.some.inj H
                                            go_wp2
                                            go_ret
                                            exact ⟨by first | rfl | (simp [errW_none, errW_some] <;> rfl) | (simp only [← hji47]; first | rfl | (simp [errW_none, errW_some] <;> rfl)) | (simp [*, errW_none, errW_some] <;> rfl), by repeat (first | (with_reducible first | exact HB.out | apply below_alloc | apply pw_below_drewN | apply below_drew1) | exact HB.out)⟩
                                          · replace c75 := Bool.eq_false_iff.mpr c75
                                            subst c75
                                            have H1 : (if 0 ≤ x14_3 then (if x14_3 < (t293.length : Int) then (if ((rd_T40 t293 x14_3).f1) ≥ 0 then ((tree_Use.f kj68 t293 t296 ((rd_T40 t293 x14_3).f1)).bind fun bt328 => (if bt328.2 = 0 then (if bt328.1 < t318 then (some false) else (prebendlaw08_TreeMore.l1 kj68 a3 t293 t296 y316 ji47 (wrap64 (x14_3 + 1)))) else (some false))) else (prebendlaw08_TreeMore.l1 kj68 a3 t293 t296 y316 ji47 (wrap64 (x14_3 + 1)))) else (none)) else (none)) = some r := by rw [if_neg (show ¬ (false = true) by decide)] at H; exact H
                                            clear H
                                            have H := H1
                                            clear H1
                                            by_cases c76 : 0 ≤ x14_3
                                            · rw [if_pos c76] at H
                                              have c76b0 : decide (0 ≤ x14_3) = true := decide_eq_true c76
                                              clear c76
                                              by_cases c77 : x14_3 < (t293.length : Int)
                                              · rw [if_pos c77] at H
                                                have c77b0 : decide (x14_3 < (t293.length : Int)) = true := decide_eq_true c77
                                                clear c77
                                                by_cases c78 : ((rd_T40 t293 x14_3).f1) ≥ 0
                                                · rw [if_pos c78] at H
                                                  have c78b0 : decide (0 ≤ ((rd_T40 t293 x14_3).f1)) = true := decide_eq_true c78
                                                  clear c78
                                                  replace H := Option.bind_eq_some_iff.mp H
                                                  obtain ⟨⟨t328, t329⟩, A790, H⟩ := H
                                                  replace H : (if t329 = 0 then (if t328 < t318 then (some false) else (prebendlaw08_TreeMore.l1 kj68 a3 t293 t296 y316 ji47 (wrap64 (x14_3 + 1)))) else (some false)) = some r := H
                                                  have A79 := Aside0.mk A790
                                                  clear A790
                                                  by_cases c80 : t329 = 0
                                                  · rw [if_pos c80] at H
                                                    have c80b0 : (t329 == 0) = true := beq_iff_eq.mpr c80
                                                    have c80b1 : (t329 != 0) = false := bne_eq_false_iff_eq.mpr c80
                                                    clear c80
                                                    by_cases c81 : t328 < t318
                                                    · rw [if_pos c81] at H
                                                      have c81b0 : decide (t328 < t318) = true := decide_eq_true c81
                                                      clear c81
                                                      obtain rfl := Option.some.inj H
                                                      have p327 : 0 ≤ (x14_3 : Int) := of_decide_eq_true (by first | (with_reducible assumption) | assumption)
                                                      have q327 : x14_3 < (t293.length : Int) := of_decide_eq_true (by first | (with_reducible assumption) | assumption)
                                                      obtain ⟨ad327, e327, hx327_0, hx327_1, hx327_2⟩ := at_T40 (Kd.V_reads' HO_9.out).2.2 x14_3 p327 q327
                                                      cases e327
                                                      replace p327 := eq_true p327
                                                      replace q327 := eq_true q327
                                                      go_wp2_with (first | ((with_reducible refine gate_callee (f := 14) rfl ?_); refine goesL_ (some 179) rfl rfl Try.func14 (by kernel_rfl) rfl #[.slice (some ad327) t293.length co60, .slice Ao26 t296.length co26, .int .i64 ((rd_T40 t293 x14_3).f1)] rfl (by (try simp only [List.map_toArray, List.map_cons, List.map_nil]); first | done | rfl | (simp only [List.length_drop, List.length_take]; rfl)) ?_; (with_reducible refine (tree_Use.calls kj68 _ _ t293 _ _ t296 ((rd_T40 t293 x14_3).f1) t328 t329 _ ?side1 ?side2 ?side3 ?side4 A79.out).mono ?_); (case side1 => repeat (first | exact (Kd.V_reads' HO_9.out).2.2 | (with_reducible refine Kd.C_alloc ?_ _) | (with_reducible refine Kd.C_drewN ?_ _) | (with_reducible refine Kd.C_drew ?_))); (case side2 => exact (Kd.V_reads' HO_9.out).2.1); (case side3 => repeat (first | exact (Kd.V_reads' HO_10.out).2.2 | (with_reducible refine Kd.C_alloc ?_ _) | (with_reducible refine Kd.C_drewN ?_ _) | (with_reducible refine Kd.C_drew ?_))); (case side4 => exact (Kd.V_reads' HO_10.out).2.1); rintro e w82 ⟨rfl, hb⟩; refine ⟨_, rfl, ?_⟩; have n0_ := Aside0.mk (Kd.V_below (by (with_reducible repeat (first | apply Kd.V_alloc | apply Kd.V_drewN | apply Kd.V_drew)); exact HO_9.out) hb); have n1_ := Aside0.mk (Kd.V_below (by (with_reducible repeat (first | apply Kd.V_alloc | apply Kd.V_drewN | apply Kd.V_drew)); exact HO_10.out) hb); have n2_ := Aside0.mk (Kd.R_below (by (with_reducible repeat (first | apply Kd.R_alloc | apply Kd.R_drewN | apply Kd.R_drew)); exact HO_11.out) hb); have n3_ := Aside0.mk (below_step (by repeat (first | (with_reducible first | exact HB.out | apply below_alloc | apply pw_below_drewN | apply below_drew1) | exact HB.out)) hb); clear HO_9; clear HO_10; clear HO_11; clear HB; have HO_9 := n0_; have HO_10 := n1_; have HO_11 := n2_; have HB := n3_; clear n0_ n1_ n2_ n3_; (try clear hb); (try clear hb2); (try clear hk); (try clear hi)))
                                                      go_ret
                                                      exact ⟨by first | rfl | (simp [errW_none, errW_some] <;> rfl) | (simp only [← hji47]; first | rfl | (simp [errW_none, errW_some] <;> rfl)) | (simp [*, errW_none, errW_some] <;> rfl), by repeat (first | (with_reducible first | exact HB.out | apply below_alloc | apply pw_below_drewN | apply below_drew1) | exact HB.out)⟩
                                                    · rw [if_neg c81] at H
                                                      have c81b0 : decide (t328 < t318) = false := decide_eq_false c81
                                                      clear c81
                                                      have H' := Aside0.mk H
                                                      clear H
                                                      have p327 : 0 ≤ (x14_3 : Int) := of_decide_eq_true (by first | (with_reducible assumption) | assumption)
                                                      have q327 : x14_3 < (t293.length : Int) := of_decide_eq_true (by first | (with_reducible assumption) | assumption)
                                                      obtain ⟨ad327, e327, hx327_0, hx327_1, hx327_2⟩ := at_T40 (Kd.V_reads' HO_9.out).2.2 x14_3 p327 q327
                                                      cases e327
                                                      replace p327 := eq_true p327
                                                      replace q327 := eq_true q327
                                                      go_wp2_with (first | ((with_reducible refine gate_callee (f := 14) rfl ?_); refine goesL_ (some 179) rfl rfl Try.func14 (by kernel_rfl) rfl #[.slice (some ad327) t293.length co60, .slice Ao26 t296.length co26, .int .i64 ((rd_T40 t293 x14_3).f1)] rfl (by (try simp only [List.map_toArray, List.map_cons, List.map_nil]); first | done | rfl | (simp only [List.length_drop, List.length_take]; rfl)) ?_; (with_reducible refine (tree_Use.calls kj68 _ _ t293 _ _ t296 ((rd_T40 t293 x14_3).f1) t328 t329 _ ?side1 ?side2 ?side3 ?side4 A79.out).mono ?_); (case side1 => repeat (first | exact (Kd.V_reads' HO_9.out).2.2 | (with_reducible refine Kd.C_alloc ?_ _) | (with_reducible refine Kd.C_drewN ?_ _) | (with_reducible refine Kd.C_drew ?_))); (case side2 => exact (Kd.V_reads' HO_9.out).2.1); (case side3 => repeat (first | exact (Kd.V_reads' HO_10.out).2.2 | (with_reducible refine Kd.C_alloc ?_ _) | (with_reducible refine Kd.C_drewN ?_ _) | (with_reducible refine Kd.C_drew ?_))); (case side4 => exact (Kd.V_reads' HO_10.out).2.1); rintro e w83 ⟨rfl, hb⟩; refine ⟨_, rfl, ?_⟩; have n0_ := Aside0.mk (Kd.V_below (by (with_reducible repeat (first | apply Kd.V_alloc | apply Kd.V_drewN | apply Kd.V_drew)); exact HO_9.out) hb); have n1_ := Aside0.mk (Kd.V_below (by (with_reducible repeat (first | apply Kd.V_alloc | apply Kd.V_drewN | apply Kd.V_drew)); exact HO_10.out) hb); have n2_ := Aside0.mk (Kd.R_below (by (with_reducible repeat (first | apply Kd.R_alloc | apply Kd.R_drewN | apply Kd.R_drew)); exact HO_11.out) hb); have n3_ := Aside0.mk (below_step (by repeat (first | (with_reducible first | exact HB.out | apply below_alloc | apply pw_below_drewN | apply below_drew1) | exact HB.out)) hb); clear HO_9; clear HO_10; clear HO_11; clear HB; have HO_9 := n0_; have HO_10 := n1_; have HO_11 := n2_; have HB := n3_; clear n0_ n1_ n2_ n3_; (try clear hb); (try clear hb2); (try clear hk); (try clear hi)))
                                                      (try simp only [← hl11_3])
                                                      go_roundg kj68
                                                      case measure => have := HJ5.out; have := HK2.out; have := HK3.out; have := HK4.out; have := HJ68.out; omega
                                                      case rel => exact ⟨(wrap64 (x14_3 + 1)), (by first | rfl | (simp; done) | (simp [*]; done)), H', ⟨by have := HJ5.out; have := HK2.out; have := HK3.out; have := HK4.out; have := HJ68.out; omega⟩, ⟨by (try simp only [hl11_3]); (with_reducible repeat (first | apply Kd.V_alloc | apply Kd.V_drewN | apply Kd.V_drew)); exact HO_9.out⟩, ⟨by (try simp only [hl11_3]); (with_reducible repeat (first | apply Kd.V_alloc | apply Kd.V_drewN | apply Kd.V_drew)); exact HO_10.out⟩, ⟨by (try simp only [hl11_3]); (with_reducible repeat (first | apply Kd.R_alloc | apply Kd.R_drewN | apply Kd.R_drew)); exact HO_11.out⟩, ⟨by repeat (first | (with_reducible first | exact HB.out | apply below_alloc | apply pw_below_drewN | apply below_drew1) | exact HB.out)⟩⟩
                                                  · rw [if_neg c80] at H
                                                    have c80b0 : (t329 == 0) = false := beq_eq_false_iff_ne.mpr c80
                                                    have c80b1 : (t329 != 0) = true := bne_iff_ne.mpr c80
                                                    obtain rfl := Option.some.inj H
                                                    have p327 : 0 ≤ (x14_3 : Int) := of_decide_eq_true (by first | (with_reducible assumption) | assumption)
                                                    have q327 : x14_3 < (t293.length : Int) := of_decide_eq_true (by first | (with_reducible assumption) | assumption)
                                                    obtain ⟨ad327, e327, hx327_0, hx327_1, hx327_2⟩ := at_T40 (Kd.V_reads' HO_9.out).2.2 x14_3 p327 q327
                                                    cases e327
                                                    replace p327 := eq_true p327
                                                    replace q327 := eq_true q327
                                                    go_wp2_with (first | ((with_reducible refine gate_callee (f := 14) rfl ?_); refine goesL_ (some 179) rfl rfl Try.func14 (by kernel_rfl) rfl #[.slice (some ad327) t293.length co60, .slice Ao26 t296.length co26, .int .i64 ((rd_T40 t293 x14_3).f1)] rfl (by (try simp only [List.map_toArray, List.map_cons, List.map_nil]); first | done | rfl | (simp only [List.length_drop, List.length_take]; rfl)) ?_; (with_reducible refine (tree_Use.calls kj68 _ _ t293 _ _ t296 ((rd_T40 t293 x14_3).f1) t328 t329 _ ?side1 ?side2 ?side3 ?side4 A79.out).mono ?_); (case side1 => repeat (first | exact (Kd.V_reads' HO_9.out).2.2 | (with_reducible refine Kd.C_alloc ?_ _) | (with_reducible refine Kd.C_drewN ?_ _) | (with_reducible refine Kd.C_drew ?_))); (case side2 => exact (Kd.V_reads' HO_9.out).2.1); (case side3 => repeat (first | exact (Kd.V_reads' HO_10.out).2.2 | (with_reducible refine Kd.C_alloc ?_ _) | (with_reducible refine Kd.C_drewN ?_ _) | (with_reducible refine Kd.C_drew ?_))); (case side4 => exact (Kd.V_reads' HO_10.out).2.1); rintro e w84 ⟨rfl, hb⟩; refine ⟨_, rfl, ?_⟩; have n0_ := Aside0.mk (Kd.V_below (by (with_reducible repeat (first | apply Kd.V_alloc | apply Kd.V_drewN | apply Kd.V_drew)); exact HO_9.out) hb); have n1_ := Aside0.mk (Kd.V_below (by (with_reducible repeat (first | apply Kd.V_alloc | apply Kd.V_drewN | apply Kd.V_drew)); exact HO_10.out) hb); have n2_ := Aside0.mk (Kd.R_below (by (with_reducible repeat (first | apply Kd.R_alloc | apply Kd.R_drewN | apply Kd.R_drew)); exact HO_11.out) hb); have n3_ := Aside0.mk (below_step (by repeat (first | (with_reducible first | exact HB.out | apply below_alloc | apply pw_below_drewN | apply below_drew1) | exact HB.out)) hb); clear HO_9; clear HO_10; clear HO_11; clear HB; have HO_9 := n0_; have HO_10 := n1_; have HO_11 := n2_; have HB := n3_; clear n0_ n1_ n2_ n3_; (try clear hb); (try clear hb2); (try clear hk); (try clear hi)))
                                                    go_ret
                                                    exact ⟨by first | rfl | (simp [errW_none, errW_some] <;> rfl) | (simp only [← hji47]; first | rfl | (simp [errW_none, errW_some] <;> rfl)) | (simp [*, errW_none, errW_some] <;> rfl), by repeat (first | (with_reducible first | exact HB.out | apply below_alloc | apply pw_below_drewN | apply below_drew1) | exact HB.out)⟩
                                                · rw [if_neg c78] at H
                                                  have c78b0 : decide (0 ≤ ((rd_T40 t293 x14_3).f1)) = false := decide_eq_false c78
                                                  clear c78
                                                  have H' := Aside0.mk H
                                                  clear H
                                                  have p327 : 0 ≤ (x14_3 : Int) := of_decide_eq_true (by first | (with_reducible assumption) | assumption)
                                                  have q327 : x14_3 < (t293.length : Int) := of_decide_eq_true (by first | (with_reducible assumption) | assumption)
                                                  obtain ⟨ad327, e327, hx327_0, hx327_1, hx327_2⟩ := at_T40 (Kd.V_reads' HO_9.out).2.2 x14_3 p327 q327
                                                  cases e327
                                                  replace p327 := eq_true p327
                                                  replace q327 := eq_true q327
                                                  go_wp2
                                                  (try simp only [← hl11_3])
                                                  go_roundg kj68
                                                  case measure => have := HJ5.out; have := HK2.out; have := HK3.out; have := HK4.out; have := HJ68.out; omega
                                                  case rel => exact ⟨(wrap64 (x14_3 + 1)), (by first | rfl | (simp; done) | (simp [*]; done)), H', ⟨by have := HJ5.out; have := HK2.out; have := HK3.out; have := HK4.out; have := HJ68.out; omega⟩, ⟨by (try simp only [hl11_3]); (with_reducible repeat (first | apply Kd.V_alloc | apply Kd.V_drewN | apply Kd.V_drew)); exact HO_9.out⟩, ⟨by (try simp only [hl11_3]); (with_reducible repeat (first | apply Kd.V_alloc | apply Kd.V_drewN | apply Kd.V_drew)); exact HO_10.out⟩, ⟨by (try simp only [hl11_3]); (with_reducible repeat (first | apply Kd.R_alloc | apply Kd.R_drewN | apply Kd.R_drew)); exact HO_11.out⟩, ⟨by repeat (first | (with_reducible first | exact HB.out | apply below_alloc | apply pw_below_drewN | apply below_drew1) | exact HB.out)⟩⟩
                                              · rw [if_neg c77] at H
                                                exact absurd H (by simp)
                                            · rw [if_neg c76] at H
                                              exact absurd H (by simp)
                              · rw [if_neg c58] at H
                                exact absurd H (by simp)
                            · rw [if_neg c57] at H
                              exact absurd H (by simp)
                          · rw [if_neg c54] at H
                            have c54b0 : decide (x14_3 < (t293.length : Int)) = false := decide_eq_false c54
                            clear c54
                            replace H := Option.bind_eq_some_iff.mp H
                            obtain ⟨t317, A850, H⟩ := H
                            replace H : (some t317) = some r := H
                            have A85 := Aside0.mk A850
                            clear A850
                            obtain rfl := Option.some.inj H
                            obtain ⟨Ao86, co86, eo86⟩ := Kd.V_slice HO_9.out
                            subst eo86
                            go_wp2_with (first | ((with_reducible refine gate_callee (f := 8) rfl ?_); refine goesL_ (some 189) rfl rfl Try.func8 (by kernel_rfl) rfl #[] rfl (by (try simp only [List.map_toArray, List.map_cons, List.map_nil]); first | done | rfl | (simp only [List.length_drop, List.length_take]; rfl)) ?_; (with_reducible refine (prebendlaw08_awake.calls k3  t317 _ A85.out).mono ?_); rintro e w87 ⟨rfl, hb⟩; refine ⟨_, rfl, ?_⟩; have n0_ := Aside0.mk (Kd.V_below (by (with_reducible repeat (first | apply Kd.V_alloc | apply Kd.V_drewN | apply Kd.V_drew)); exact HO_9.out) hb); have n1_ := Aside0.mk (Kd.V_below (by (with_reducible repeat (first | apply Kd.V_alloc | apply Kd.V_drewN | apply Kd.V_drew)); exact HO_10.out) hb); have n2_ := Aside0.mk (Kd.R_below (by (with_reducible repeat (first | apply Kd.R_alloc | apply Kd.R_drewN | apply Kd.R_drew)); exact HO_11.out) hb); have n3_ := Aside0.mk (below_step (by repeat (first | (with_reducible first | exact HB.out | apply below_alloc | apply pw_below_drewN | apply below_drew1) | exact HB.out)) hb); clear HO_9; clear HO_10; clear HO_11; clear HB; have HO_9 := n0_; have HO_10 := n1_; have HO_11 := n2_; have HB := n3_; clear n0_ n1_ n2_ n3_; (try clear hb); (try clear hb2); (try clear hk); (try clear hi)))
                            go_ret
                            exact ⟨by first | rfl | (simp [errW_none, errW_some] <;> rfl) | (simp only [← hji47]; first | rfl | (simp [errW_none, errW_some] <;> rfl)) | (simp [*, errW_none, errW_some] <;> rfl), by repeat (first | (with_reducible first | exact HB.out | apply below_alloc | apply pw_below_drewN | apply below_drew1) | exact HB.out)⟩
                    · rw [if_neg c49] at H
                      exact absurd H (by simp)
                  · rw [if_neg c48] at H
                    exact absurd H (by simp)
        · rw [if_neg c22] at H
          exact absurd H (by simp)

/-- THE ONE PURE STATEMENT of prebendlaw08_TreeMore. -/
def prebendlaw08_TreeMore.Pure : Prop := ∀ (l0 : List (S40)) (l1 : List (S43)) (a2 : Int) (a3 : Int), (l0.length ≤ maxLen ∧ ∀ y ∈ l0, g40 y) → (l1.length ≤ maxLen ∧ ∀ y ∈ l1, g43 y) → (Lit.int .u8 a2).wf = true → (Lit.int .u32 a3).wf = true → ∃ k, prebendlaw08_TreeMore.f k l0 l1 a2 a3 = some true
theorem prebendlaw08_TreeMore.walk (P : prebendlaw08_TreeMore.Pure) (A0 : Option Addr) (c0 : Nat) (l0 : List (S40)) (A1 : Option Addr) (c1 : Nat) (l1 : List (S43)) (a2 : Int) (a3 : Int) (w : World) (hr0 : Kd.C k40 w A0 l0.length l0) (hc0 : l0.length ≤ c0) (hr1 : Kd.C k43 w A1 l1.length l1) (hc1 : l1.length ≤ c1) (h0_ : (l0.length ≤ maxLen ∧ ∀ y ∈ l0, g40 y)) (h1_ : (l1.length ≤ maxLen ∧ ∀ y ∈ l1, g43 y)) (h2_ : (Lit.int .u8 a2).wf = true) (h3_ : (Lit.int .u32 a3).wf = true) :
    Calls Try.prog 6 #[.slice A0 l0.length c0, .slice A1 l1.length c1, .int .u8 a2, .int .u32 a3] w fun e w' => e = .returned (.bool true) ∧ Below w.heap.size w w' := by
  obtain ⟨k, h⟩ := P l0 l1 a2 a3 h0_ h1_ h2_ h3_
  refine (prebendlaw08_TreeMore.calls k A0 c0 l0 A1 c1 l1 a2 a3 true w hr0 hc0 hr1 hc1 h).mono ?_
  rintro e w' ⟨rfl, hd⟩
  exact ⟨rfl, hd⟩

end Go.Proofs.Ytfdlncakhnlgoaa.PAll
