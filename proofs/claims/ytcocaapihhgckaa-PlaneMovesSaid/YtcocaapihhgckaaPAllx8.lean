/- Contracts of functions of the program, each with a plain function of the same answers; written by a program of this workplace. -/
import Derived.Test.YtcocaapihhgckaaPAllx0
import Derived.Test.YtcocaapihhgckaaPAllx3
import Derived.Test.YtcocaapihhgckaaPAllx4
import Derived.Test.YtcocaapihhgckaaPAllx5
import Derived.Test.YtcocaapihhgckaaPAllx6
import Derived.Test.YtcocaapihhgckaaPAllx7
namespace Go.Proofs.Ytcocaapihhgckaa.PAll
open Go.RowKit Go.Proofs.YtcocaapihhgckaaW.PrintWords Go.Proofs.YtcocaapihhgckaaW.PrintLast Go.Proofs.YtcocaapihhgckaaW.PrintMore
attribute [local go_sem] max2_int min2_int max_two min_two max_three min_three max_four min_four   -- for this text's walks alone
set_option linter.unusedVariables false
set_option linter.unusedSimpArgs false

/-! ### plane_Meets: function 13 -/
-- beside plane_corner.calls, plane_size.calls, plane_short.calls
def meetB (at_ an al am bt bn bl bm : Int) : Bool := decide (bt - at_ < al) && decide (-(bt - at_) < bl) && decide (bn - an < am) && decide (-(bn - an) < bm)
def plane_Meets.f (a0_0 : Int) (a0_1 : Int) (a0_2 : Int) (a0_3 : Int) (a1_0 : Int) (a1_1 : Int) (a1_2 : Int) (a1_3 : Int) : Option Bool := (plane_Good.f a0_0 a0_1 a0_2 a0_3).bind fun g => if g = true then ((plane_Good.f a1_0 a1_1 a1_2 a1_3).bind fun g2 => if g2 = true then some (meetB a0_0 a0_1 a0_2 a0_3 a1_0 a1_1 a1_2 a1_3) else some false) else some false
def boxOf (a b c d : Int) : Obj := .cells #[.int .i64 a, .int .i64 b, .int .i64 c, .int .i64 d] 23 (0, 0)
set_option maxRecDepth 100000 in
theorem meets_no (a0_0 a0_1 a0_2 a0_3 a1_0 a1_1 a1_2 a1_3 : Int) (w : World) (h : plane_Good.f a0_0 a0_1 a0_2 a0_3 = some false) :
    Calls Try.prog 13 #[.agg #[.int .i64 a0_0, .int .i64 a0_1, .int .i64 a0_2, .int .i64 a0_3], .agg #[.int .i64 a1_0, .int .i64 a1_1, .int .i64 a1_2, .int .i64 a1_3]] w fun e w' => e = .returned (.bool false) ∧ Below w.heap.size w w' := by
  have HG := Aside0.mk h
  clear h
  go_enter Try.func13, Try.ntmps13
  go_wp2_with (go_at_call 9; refine (plane_Good.calls a0_0 a0_1 a0_2 a0_3 false _ HG.out).mono ?_; rintro e w1 ⟨rfl, hb⟩)
  go_ret
  exact ⟨rfl, (below_alloc (below_alloc (Below.refl _ _) _) _).trans (hb.mono (by simp; omega))⟩

theorem cells_a {w w1 : World} {cs ds : Array Value} {T S : TypeId} (hb : Below ((w.alloc (.cells cs T (0, 0))).alloc (.cells ds S (0, 0))).heap.size ((w.alloc (.cells cs T (0, 0))).alloc (.cells ds S (0, 0))) w1) (j : Nat) {v : Value} (hj : cs[j]? = some v) : w1.cell? ⟨w.heap.size, j, none⟩ = some v := by
  refine (hb.cell (p := ⟨w.heap.size, j, none⟩) (by simp; omega)).trans ?_
  have e := heap_alloc_new w (.cells cs T (0, 0))
  have e2 : ((w.alloc (.cells cs T (0, 0))).alloc (.cells ds S (0, 0))).heap[w.heap.size]? = (w.alloc (.cells cs T (0, 0))).heap[w.heap.size]? := heap_alloc_old _ _ (by simp)
  simp only [World.cell?, e2, e]
  simpa using hj
theorem cells_b {w w1 : World} {cs ds : Array Value} {T S : TypeId} (hb : Below ((w.alloc (.cells cs T (0, 0))).alloc (.cells ds S (0, 0))).heap.size ((w.alloc (.cells cs T (0, 0))).alloc (.cells ds S (0, 0))) w1) (j : Nat) {v : Value} (hj : ds[j]? = some v) : w1.cell? ⟨w.heap.size + 1, j, none⟩ = some v := by
  have := cells_of hb j hj
  simpa using this
theorem cells_ab {w w1 : World} {a b c d x y z t : Int} (hb : Below ((w.alloc (.cells #[.int .i64 a, .int .i64 b, .int .i64 c, .int .i64 d] 23 (0, 0))).alloc (.cells #[.int .i64 x, .int .i64 y, .int .i64 z, .int .i64 t] 23 (0, 0))).heap.size ((w.alloc (.cells #[.int .i64 a, .int .i64 b, .int .i64 c, .int .i64 d] 23 (0, 0))).alloc (.cells #[.int .i64 x, .int .i64 y, .int .i64 z, .int .i64 t] 23 (0, 0))) w1) :
    (w1.cell? ⟨w.heap.size, 0, none⟩ = some (.int .i64 a) ∧ w1.cell? ⟨w.heap.size, 1, none⟩ = some (.int .i64 b) ∧ w1.cell? ⟨w.heap.size, 2, none⟩ = some (.int .i64 c) ∧ w1.cell? ⟨w.heap.size, 3, none⟩ = some (.int .i64 d)) ∧
    (w1.cell? ⟨w.heap.size + 1, 0, none⟩ = some (.int .i64 x) ∧ w1.cell? ⟨w.heap.size + 1, 1, none⟩ = some (.int .i64 y) ∧ w1.cell? ⟨w.heap.size + 1, 2, none⟩ = some (.int .i64 z) ∧ w1.cell? ⟨w.heap.size + 1, 3, none⟩ = some (.int .i64 t)) :=
  ⟨⟨cells_a hb 0 rfl, cells_a hb 1 rfl, cells_a hb 2 rfl, cells_a hb 3 rfl⟩, cells_b hb 0 rfl, cells_b hb 1 rfl, cells_b hb 2 rfl, cells_b hb 3 rfl⟩
set_option maxRecDepth 100000 in
theorem meets_no2 (a0_0 a0_1 a0_2 a0_3 a1_0 a1_1 a1_2 a1_3 : Int) (w : World) (h : plane_Good.f a0_0 a0_1 a0_2 a0_3 = some true) (h2 : plane_Good.f a1_0 a1_1 a1_2 a1_3 = some false) :
    Calls Try.prog 13 #[.agg #[.int .i64 a0_0, .int .i64 a0_1, .int .i64 a0_2, .int .i64 a0_3], .agg #[.int .i64 a1_0, .int .i64 a1_1, .int .i64 a1_2, .int .i64 a1_3]] w fun e w' => e = .returned (.bool false) ∧ Below w.heap.size w w' := by
  have HG := Aside0.mk h
  have HG2 := Aside0.mk h2
  clear h h2
  go_enter Try.func13, Try.ntmps13
  go_wp2_with (first | (go_at_call 9; with_reducible refine (plane_Good.calls a0_0 a0_1 a0_2 a0_3 true _ HG.out).mono ?_; rintro e w1 ⟨rfl, hb⟩; obtain ⟨⟨c0, c1, c2, c3⟩, d0, d1, d2, d3⟩ := cells_ab hb) | (go_at_call 9; with_reducible refine (plane_Good.calls a1_0 a1_1 a1_2 a1_3 false _ HG2.out).mono ?_; rintro e w2 ⟨rfl, hb2⟩))
  go_ret
  exact ⟨rfl, ((below_alloc (below_alloc (Below.refl _ _) _) _).trans (hb.mono (by simp; omega))).trans (hb2.mono (by have := hb.size; simp at this; omega))⟩
structure Two (w : World) (a b c d x y z t : Int) (W : World) : Prop where
  c0 : W.cell? ⟨w.heap.size, 0, none⟩ = some (.int .i64 a)
  c1 : W.cell? ⟨w.heap.size, 1, none⟩ = some (.int .i64 b)
  c2 : W.cell? ⟨w.heap.size, 2, none⟩ = some (.int .i64 c)
  c3 : W.cell? ⟨w.heap.size, 3, none⟩ = some (.int .i64 d)
  d0 : W.cell? ⟨w.heap.size + 1, 0, none⟩ = some (.int .i64 x)
  d1 : W.cell? ⟨w.heap.size + 1, 1, none⟩ = some (.int .i64 y)
  d2 : W.cell? ⟨w.heap.size + 1, 2, none⟩ = some (.int .i64 z)
  d3 : W.cell? ⟨w.heap.size + 1, 3, none⟩ = some (.int .i64 t)
  size : w.heap.size + 2 ≤ W.heap.size
  below : Below w.heap.size w W
theorem Two.go {w : World} {a b c d x y z t : Int} {W W' : World} (T : Two w a b c d x y z t W) (h : Below W.heap.size W W') : Two w a b c d x y z t W' := by
  have hs := T.size
  exact ⟨(h.cell (by show w.heap.size < _; omega)).trans T.c0, (h.cell (by show w.heap.size < _; omega)).trans T.c1, (h.cell (by show w.heap.size < _; omega)).trans T.c2, (h.cell (by show w.heap.size < _; omega)).trans T.c3, (h.cell (by show w.heap.size + 1 < _; omega)).trans T.d0, (h.cell (by show w.heap.size + 1 < _; omega)).trans T.d1, (h.cell (by show w.heap.size + 1 < _; omega)).trans T.d2, (h.cell (by show w.heap.size + 1 < _; omega)).trans T.d3, Nat.le_trans hs h.size, T.below.trans (h.mono (by omega))⟩
theorem Two.drew {w : World} {a b c d x y z t : Int} {W : World} (T : Two w a b c d x y z t W) : Two w a b c d x y z t W.drew := T.go (Below.refl _ _).drew
theorem Two.mk1 {w w1 : World} {a b c d x y z t : Int} (hb : Below ((w.alloc (.cells #[.int .i64 a, .int .i64 b, .int .i64 c, .int .i64 d] 23 (0, 0))).alloc (.cells #[.int .i64 x, .int .i64 y, .int .i64 z, .int .i64 t] 23 (0, 0))).heap.size ((w.alloc (.cells #[.int .i64 a, .int .i64 b, .int .i64 c, .int .i64 d] 23 (0, 0))).alloc (.cells #[.int .i64 x, .int .i64 y, .int .i64 z, .int .i64 t] 23 (0, 0))) w1) : Two w a b c d x y z t w1 := by
  obtain ⟨⟨c0, c1, c2, c3⟩, d0, d1, d2, d3⟩ := cells_ab hb
  exact ⟨c0, c1, c2, c3, d0, d1, d2, d3, by have := hb.size; simp at this; omega, (below_alloc (below_alloc (Below.refl _ _) _) _).trans (hb.mono (by simp; omega))⟩
set_option maxHeartbeats 4000000 in
set_option maxRecDepth 100000 in
theorem meets_yes (a0_0 a0_1 a0_2 a0_3 a1_0 a1_1 a1_2 a1_3 : Int) (w : World) (h : plane_Good.f a0_0 a0_1 a0_2 a0_3 = some true) (h2 : plane_Good.f a1_0 a1_1 a1_2 a1_3 = some true) :
    Calls Try.prog 13 #[.agg #[.int .i64 a0_0, .int .i64 a0_1, .int .i64 a0_2, .int .i64 a0_3], .agg #[.int .i64 a1_0, .int .i64 a1_1, .int .i64 a1_2, .int .i64 a1_3]] w fun e w' => e = .returned (.bool (meetB a0_0 a0_1 a0_2 a0_3 a1_0 a1_1 a1_2 a1_3)) ∧ Below w.heap.size w w' := by
  have HG := Aside0.mk h
  have HG2 := Aside0.mk h2
  obtain ⟨u1, u2, u3, u4, u5, u6, u7, u8⟩ := plane_Area.bds h
  obtain ⟨v1, v2, v3, v4, v5, v6, v7, v8⟩ := plane_Area.bds h2
  obtain ⟨fr, hr, ir⟩ := Flt.is_sub (Flt.is_int a1_0 (by omega)) (Flt.is_int a0_0 (by omega)) (by omega)
  obtain ⟨fi, hi, ii⟩ := Flt.is_sub (Flt.is_int a1_1 (by omega)) (Flt.is_int a0_1 (by omega)) (by omega)
  have RS := run_csub _ _ _ _ fr fi hr hi
  have l1 := Aside0.mk (Flt.is_int a0_2 (by omega))
  have l2 := Aside0.mk (Flt.is_int a1_2 (by omega))
  have l3 := Aside0.mk (Flt.is_int a0_3 (by omega))
  have l4 := Aside0.mk (Flt.is_int a1_3 (by omega))
  have n1 := Aside0.mk (Flt.is_neg ir)
  have n2 := Aside0.mk (Flt.is_neg ii)
  have IR := Aside0.mk ir
  have II := Aside0.mk ii
  unfold meetB
  obtain ⟨p1, q1⟩ : ∃ p, decide (a1_0 - a0_0 < a0_2) = p := ⟨_, rfl⟩
  obtain ⟨p2, q2⟩ : ∃ p, decide (-(a1_0 - a0_0) < a1_2) = p := ⟨_, rfl⟩
  obtain ⟨p3, q3⟩ : ∃ p, decide (a1_1 - a0_1 < a0_3) = p := ⟨_, rfl⟩
  obtain ⟨p4, q4⟩ : ∃ p, decide (-(a1_1 - a0_1) < a1_3) = p := ⟨_, rfl⟩
  rw [q1, q2, q3, q4]
  have Q1 := Aside0.mk q1
  have Q2 := Aside0.mk q2
  have Q3 := Aside0.mk q3
  have Q4 := Aside0.mk q4
  clear h h2 u1 u2 u3 u4 u5 u6 u7 u8 v1 v2 v3 v4 v5 v6 v7 v8 ir ii hr hi q1 q2 q3 q4
  go_enter Try.func13, Try.ntmps13
  go_wp2_with (first | (go_at_call 9; with_reducible refine (plane_Good.calls a0_0 a0_1 a0_2 a0_3 true _ HG.out).mono ?_; rintro e w1 ⟨rfl, hb⟩; have T := Two.mk1 hb; clear hb; obtain ⟨c0, c1, c2, c3, d0, d1, d2, d3, sz, be⟩ := id T; replace be := Aside0.mk be) | (go_at_call 9; with_reducible refine (plane_Good.calls a1_0 a1_1 a1_2 a1_3 true _ HG2.out).mono ?_; rintro e w2 ⟨rfl, hb⟩; replace T := T.go hb; clear hb c0 c1 c2 c3 d0 d1 d2 d3 sz be))
  go_cut [5] (fun v5 wc => v5 = .complex .f64 fr fi ∧ Two w a0_0 a0_1 a0_2 a0_3 a1_0 a1_1 a1_2 a1_3 wc)
  case first =>
    obtain ⟨c0, c1, c2, c3, d0, d1, d2, d3, sz, be⟩ := id T
    replace be := Aside0.mk be
    go_region_with (first | (go_at_call 23; with_reducible refine (plane_corner.calls a0_0 a0_1 a0_2 a0_3 _).mono ?_; rintro e w3 ⟨rfl, hb⟩; replace T := Two.go (by first | exact T | exact T.drew) hb; clear c0 c1 c2 c3 d0 d1 d2 d3 sz be hb; obtain ⟨c0, c1, c2, c3, d0, d1, d2, d3, sz, be⟩ := id T; replace be := Aside0.mk be) | (go_at_call 23; with_reducible refine (plane_corner.calls a1_0 a1_1 a1_2 a1_3 _).mono ?_; rintro e w4 ⟨rfl, hb⟩; replace T := Two.go (by first | exact T | exact T.drew) hb; clear c0 c1 c2 c3 d0 d1 d2 d3 sz be hb; obtain ⟨c0, c1, c2, c3, d0, d1, d2, d3, sz, be⟩ := id T; replace be := Aside0.mk be))
    all_goals (go_wp2; go_meet; case rel => exact ⟨rfl, T⟩)
  case rest =>
    clear RS T
    obtain ⟨rfl, T⟩ := hcut
    obtain ⟨c0, c1, c2, c3, d0, d1, d2, d3, sz, be⟩ := id T
    replace be := Aside0.mk be
    cases p1 <;> cases p2 <;> cases p3 <;> cases p4 <;> (
      go_wp2_with (first
        | (rw [run_neg])
        | (go_at_call 22; with_reducible refine (plane_size.calls a0_0 a0_1 a0_2 a0_3 _).mono ?_; rintro e w3 ⟨rfl, hb⟩; replace T := Two.go T hb; clear c0 c1 c2 c3 d0 d1 d2 d3 sz be hb; obtain ⟨c0, c1, c2, c3, d0, d1, d2, d3, sz, be⟩ := id T; replace be := Aside0.mk be)
        | (go_at_call 22; with_reducible refine (plane_size.calls a1_0 a1_1 a1_2 a1_3 _).mono ?_; rintro e w4 ⟨rfl, hb⟩; replace T := Two.go T hb; clear c0 c1 c2 c3 d0 d1 d2 d3 sz be hb; obtain ⟨c0, c1, c2, c3, d0, d1, d2, d3, sz, be⟩ := id T; replace be := Aside0.mk be)
        | (go_at_call_of 24 (FloatKind.f64.nearest a0_2); with_reducible refine (short_at _ _ _ _ _ _ IR.out l1.out Q1.out).mono ?_; rintro e w4 ⟨rfl, hb⟩; replace T := Two.go T hb; clear c0 c1 c2 c3 d0 d1 d2 d3 sz be hb; obtain ⟨c0, c1, c2, c3, d0, d1, d2, d3, sz, be⟩ := id T; replace be := Aside0.mk be)
        | (go_at_call_of 24 (FloatKind.f64.nearest a1_2); with_reducible refine (short_at _ _ _ _ _ _ n1.out l2.out Q2.out).mono ?_; rintro e w4 ⟨rfl, hb⟩; replace T := Two.go T hb; clear c0 c1 c2 c3 d0 d1 d2 d3 sz be hb; obtain ⟨c0, c1, c2, c3, d0, d1, d2, d3, sz, be⟩ := id T; replace be := Aside0.mk be)
        | (go_at_call_of 24 (FloatKind.f64.nearest a0_3); with_reducible refine (short_at _ _ _ _ _ _ II.out l3.out Q3.out).mono ?_; rintro e w4 ⟨rfl, hb⟩; replace T := Two.go T hb; clear c0 c1 c2 c3 d0 d1 d2 d3 sz be hb; obtain ⟨c0, c1, c2, c3, d0, d1, d2, d3, sz, be⟩ := id T; replace be := Aside0.mk be)
        | (go_at_call_of 24 (FloatKind.f64.nearest a1_3); with_reducible refine (short_at _ _ _ _ _ _ n2.out l4.out Q4.out).mono ?_; rintro e w4 ⟨rfl, hb⟩; replace T := Two.go T hb; clear c0 c1 c2 c3 d0 d1 d2 d3 sz be hb; obtain ⟨c0, c1, c2, c3, d0, d1, d2, d3, sz, be⟩ := id T; replace be := Aside0.mk be))
      go_ret
      exact ⟨rfl, T.below⟩)
theorem plane_Meets.calls (a0_0 : Int) (a0_1 : Int) (a0_2 : Int) (a0_3 : Int) (a1_0 : Int) (a1_1 : Int) (a1_2 : Int) (a1_3 : Int) (r : Bool) (w : World) (h : plane_Meets.f a0_0 a0_1 a0_2 a0_3 a1_0 a1_1 a1_2 a1_3 = some r) :
    Calls Try.prog 13 #[.agg #[.int .i64 a0_0, .int .i64 a0_1, .int .i64 a0_2, .int .i64 a0_3], .agg #[.int .i64 a1_0, .int .i64 a1_1, .int .i64 a1_2, .int .i64 a1_3]] w fun e w' => e = .returned (.bool r) ∧ Below w.heap.size w w' := by
  obtain ⟨g, hg, h⟩ := Option.bind_eq_some_iff.1 h
  cases g with
  | false => obtain rfl : r = false := by simpa using h.symm
             exact meets_no a0_0 a0_1 a0_2 a0_3 a1_0 a1_1 a1_2 a1_3 w hg
  | true =>
    rw [if_pos rfl] at h
    obtain ⟨g2, hg2, h⟩ := Option.bind_eq_some_iff.1 h
    cases g2 with
    | false => obtain rfl : r = false := by simpa using h.symm
               exact meets_no2 a0_0 a0_1 a0_2 a0_3 a1_0 a1_1 a1_2 a1_3 w hg hg2
    | true => rw [if_pos rfl] at h
              obtain rfl := Option.some.inj h
              exact meets_yes a0_0 a0_1 a0_2 a0_3 a1_0 a1_1 a1_2 a1_3 w hg hg2
end Go.Proofs.Ytcocaapihhgckaa.PAll
