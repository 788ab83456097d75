/- Contracts of functions of the program, each with a plain function of the same answers; written by a program of this workplace. -/
import Derived.Test.YtfdlncakhnlgoaaPAllx0
namespace Go.Proofs.Ytfdlncakhnlgoaa.PAll
open Go.RowKit Go.Proofs.YtfdlncakhnlgoaaW.PrintWords Go.Proofs.YtfdlncakhnlgoaaW.PrintLast Go.Proofs.YtfdlncakhnlgoaaW.PrintMore
attribute [local go_sem] max2_int min2_int max_two min_two max_three min_three max_four min_four   -- for this text's walks alone
set_option linter.unusedVariables false
set_option linter.unusedSimpArgs false

/-! ### tree_Good: function 9 -/
theorem tree_Goodlit.calls (x : S40) (y : ByteArray) (b : Bool) (g : Nat) (w : World) (hg : w.cell? ⟨g, 0, none⟩ = some (.string y)) (h : (x.f0.toList == y.toList) = b) :
    Calls Try.prog 19 #[.agg #[.string x.f0, .int .i64 x.f1, .int .i64 x.f2], .pointer (some ⟨g, 0, none⟩)] w fun e w' => e = .returned (.bool b) ∧ Below w.heap.size w w' := by
  have hg2 : (w.alloc (.cells #[.string x.f0, .int .i64 x.f1, .int .i64 x.f2] 40 (0, 0))).cell? ⟨g, 0, none⟩ = some (.string y) := ((below_alloc (Below.refl w.heap.size w) _).cell (World.block_lt_of_cell? w _ hg)).trans hg
  go_enter Try.func19, Try.ntmps19
  go_wp2
  go_ret
  exact ⟨rfl, below_alloc (Below.refl _ _) _⟩
def slices_IndexFunc.l0 : Nat → List S40 → ByteArray → Int → Option Int
  | 0, _, _, _ => none
  | k + 1, l, y, i => if i < (l.length : Int) then (if 0 ≤ i then (if (rd_T40 l i).f0.toList = y.toList then some i else slices_IndexFunc.l0 k l y (wrap64 (i + 1))) else none) else some (-1)
set_option maxHeartbeats 4000000 in
set_option maxRecDepth 100000 in
theorem slices_IndexFunc.calls (k : Nat) (A0 : Option Addr) (c0 : Nat) (l0 : List (S40)) (g : Nat) (y : ByteArray) (r : Int) (w : World) (hr0 : Kd.C k40 w A0 l0.length l0) (hc0 : l0.length ≤ c0) (hg : w.cell? ⟨g, 0, none⟩ = some (.string y)) (h : slices_IndexFunc.l0 k l0 y 0 = some r) :
    Calls Try.prog 25 #[.slice A0 l0.length c0, .func (.func 19) #[] #[.pointer (some ⟨g, 0, none⟩)]] w fun e w' => e = .returned (.int .i64 r) ∧ Below w.heap.size w w' := by
  have hu40 := Try.underlying40
  have HR0 := Aside0.mk hr0
  have HC0 := Aside0.mk hc0
  have HG := Aside0.mk hg
  have HB := Aside0.mk (Below.refl w.heap.size w)
  have H' := Aside0.mk h
  clear h hr0 hc0 hg
  go_enter Try.func25, Try.ntmps25
  go_wp2
  go_loopg [8] k (fun kq v8 w' => ∃ (x8 : Int), v8 = .int .i64 x8 ∧ Aside0 (slices_IndexFunc.l0 kq l0 y x8 = some r) ∧ Aside0 (Below w.heap.size w w'))
  case atStart => exact ⟨(0), rfl, H', HB⟩
  case round =>
    clear H' HB
    obtain ⟨x8, rfl, HA, HB⟩ := hrel
    cases gk with
    | zero => exact absurd HA.out (by simp [slices_IndexFunc.l0])
    | succ k1 =>
      have H := HA.out
      clear HA
      simp only [slices_IndexFunc.l0] at H
      by_cases c3 : x8 < (l0.length : Int)
      · rw [if_pos c3] at H
        have q154 := c3
        have c3b0 : decide (x8 < (l0.length : Int)) = true := decide_eq_true c3
        clear c3
        by_cases c4 : 0 ≤ x8
        · rw [if_pos c4] at H
          have p154 := c4
          have c4b0 : decide (0 ≤ x8) = true := decide_eq_true c4
          clear c4
          obtain ⟨ad154, e154, hx154_0, hx154_1, hx154_2⟩ := at_T40 HR0.out x8 p154 q154
          cases e154
          replace hx154_0 := (HB.out.cell (World.block_lt_of_cell? w _ hx154_0)).trans hx154_0
          replace hx154_1 := (HB.out.cell (World.block_lt_of_cell? w _ hx154_1)).trans hx154_1
          replace hx154_2 := (HB.out.cell (World.block_lt_of_cell? w _ hx154_2)).trans hx154_2
          have hg1 := (HB.out.cell (World.block_lt_of_cell? w _ HG.out)).trans HG.out
          have HG1 := Aside0.mk hg1
          clear hg1
          replace p154 := eq_true p154
          replace q154 := eq_true q154
          by_cases c5 : (rd_T40 l0 x8).f0.toList = y.toList
          · rw [if_pos c5] at H
            obtain rfl := Option.some.inj H
            have c5b := Aside0.mk (beq_iff_eq.mpr c5)
            clear c5 H
            go_wp2_with (go_at_call 19; with_reducible refine (tree_Goodlit.calls (rd_T40 l0 x8) y true g _ HG1.out c5b.out).mono ?_; rintro e w2 ⟨rfl, hb⟩; have n1_ := Aside0.mk (below_step HB.out hb); clear HB; have HB := n1_; clear n1_ hb)
            go_ret
            exact ⟨rfl, HB.out⟩
          · rw [if_neg c5] at H
            have c5b := Aside0.mk (beq_eq_false_iff_ne.mpr c5)
            have H' := Aside0.mk H
            clear c5 H
            go_wp2_with (go_at_call 19; with_reducible refine (tree_Goodlit.calls (rd_T40 l0 x8) y false g _ HG1.out c5b.out).mono ?_; rintro e w2 ⟨rfl, hb⟩; have n1_ := Aside0.mk (below_step HB.out hb); clear HB; have HB := n1_; clear n1_ hb)
            go_roundg k1
            case measure => omega
            case rel => exact ⟨wrap64 (x8 + 1), (by first | rfl | (simp; done)), H', HB⟩
        · rw [if_neg c4] at H; simp at H
      · rw [if_neg c3] at H
        obtain rfl := Option.some.inj H
        have c3b0 : decide (x8 < (l0.length : Int)) = false := decide_eq_false c3
        clear c3 H
        go_wp2
        go_ret
        exact ⟨rfl, HB.out⟩
theorem slices_IndexFunc.mono_l : ∀ k y0 y1 y2, LeO (slices_IndexFunc.l0 k y0 y1 y2) (slices_IndexFunc.l0 (k + 1) y0 y1 y2)
  | 0 => fun _ _ _ r h => by simp [slices_IndexFunc.l0] at h
  | k + 1 => by
    have ih := slices_IndexFunc.mono_l k
    · intro y0 y1 y2
      unfold slices_IndexFunc.l0
      repeat' first
      | (with_reducible exact ih _ _ _)
      | (with_reducible exact LeO.refl _)
      | (with_reducible exact LeO.none _)
      | (with_reducible refine LeO.ite ?_ ?_)
      | (with_reducible refine LeO.bind ?_ (fun _ => ?_))
      | exact LeO.none _
      | refine LeO.ite ?_ ?_
def slices_ContainsFunc.f (k : Nat) (l : List S40) (y : ByteArray) : Option Bool := (slices_IndexFunc.l0 k l y 0).bind fun n => some (decide (n ≥ 0))
theorem slices_ContainsFunc.calls (k : Nat) (A0 : Option Addr) (c0 : Nat) (l0 : List (S40)) (g : Nat) (y : ByteArray) (r : Bool) (w : World) (hr0 : Kd.C k40 w A0 l0.length l0) (hc0 : l0.length ≤ c0) (hg : w.cell? ⟨g, 0, none⟩ = some (.string y)) (h : slices_ContainsFunc.f k l0 y = some r) :
    Calls Try.prog 18 #[.slice A0 l0.length c0, .func (.func 19) #[] #[.pointer (some ⟨g, 0, none⟩)]] w fun e w' => e = .returned (.bool r) ∧ Below w.heap.size w w' := by
  have HR0 := Aside0.mk hr0
  have HC0 := Aside0.mk hc0
  have HG := Aside0.mk hg
  obtain ⟨n, hn, h2⟩ := Option.bind_eq_some_iff.1 h
  have HN := Aside0.mk hn
  obtain rfl := Option.some.inj h2
  clear h hr0 hc0 hg hn h2
  go_enter Try.func18, Try.ntmps18
  go_wp2_with (go_at_call 25; with_reducible refine (slices_IndexFunc.calls k A0 c0 l0 g y n _ HR0.out HC0.out HG.out HN.out).mono ?_; rintro e w2 ⟨rfl, hb⟩)
  go_ret
  exact ⟨rfl, hb⟩

def tree_Good.bad (i : Int) (t : Bool) (x : S40) : Bool := t || (x.f0.toList == []) || decide (16 < (x.f0.size : Int)) || decide (x.f1 < -1) || decide (i ≤ x.f1) || decide (x.f2 < 0) || decide (1152921504606846976 < x.f2)
def tree_Good.l0 : Nat → List S40 → Int → Option Bool
  | 0, _, _ => none
  | k + 1, l, i => if i < (l.length : Int) then (if 0 ≤ i then ((slices_ContainsFunc.f k (l.take i.toNat) (rd_T40 l i).f0).bind fun t => if tree_Good.bad i t (rd_T40 l i) = true then some false else tree_Good.l0 k l (wrap64 (i + 1))) else none) else some true
def tree_Good.f (k : Nat) (l0 : List S40) : Option Bool := if (l0.length : Int) > 8 then some false else tree_Good.l0 k l0 0
theorem tree_Good.mono_l : ∀ k y0 y1, LeO (tree_Good.l0 k y0 y1) (tree_Good.l0 (k + 1) y0 y1)
  | 0 => fun _ _ r h => by simp [tree_Good.l0] at h
  | k + 1 => by
    have ih := tree_Good.mono_l k
    · intro y0 y1
      unfold tree_Good.l0 slices_ContainsFunc.f
      repeat' first
      | (with_reducible exact ih _ _)
      | (with_reducible exact slices_IndexFunc.mono_l _ _ _ _)
      | (with_reducible exact LeO.refl _)
      | (with_reducible exact LeO.none _)
      | (with_reducible refine LeO.ite ?_ ?_)
      | (with_reducible refine LeO.bind ?_ (fun _ => ?_))
      | exact LeO.none _
      | refine LeO.ite ?_ ?_
theorem tree_Good.mono : ∀ a0 k, LeO (tree_Good.f k a0) (tree_Good.f (k + 1) a0) := by
  intro a0 k
  unfold tree_Good.f
  split
  · exact LeO.refl _
  · exact tree_Good.mono_l k a0 0
set_option maxHeartbeats 8000000 in
set_option maxRecDepth 100000 in
theorem tree_Good.calls (k : Nat) (A0 : Option Addr) (c0 : Nat) (l0 : List (S40)) (r : Bool) (w : World) (hr0 : Kd.C k40 w A0 l0.length l0) (hc0 : l0.length ≤ c0) (h : tree_Good.f k l0 = some r) :
    Calls Try.prog 9 #[.slice A0 l0.length c0] w fun e w' => e = .returned (.bool r) ∧ Below w.heap.size w w' := by
  have hu40 := Try.underlying40
  have HR0 := Aside0.mk hr0
  have HC0 := Aside0.mk hc0
  have HB := Aside0.mk (Below.refl w.heap.size w)
  unfold tree_Good.f at h
  by_cases c1 : (l0.length : Int) > 8
  · rw [if_pos c1] at h
    obtain rfl := Option.some.inj h
    have c1b : decide (8 < (l0.length : Int)) = true := decide_eq_true c1
    clear c1 h hr0 hc0
    go_enter Try.func9, Try.ntmps9
    go_wp2
    go_ret
    exact ⟨rfl, HB.out⟩
  · rw [if_neg c1] at h
    have c1b : decide (8 < (l0.length : Int)) = false := decide_eq_false c1
    have c1c := Aside0.mk c1
    have H' := Aside0.mk h
    clear h hr0 hc0 c1
    go_enter Try.func9, Try.ntmps9
    go_wp2
    go_loopg [11] k (fun kq v11 w' => ∃ (x11 : Int), v11 = .int .i64 x11 ∧ Aside0 (tree_Good.l0 kq l0 x11 = some r) ∧ Aside0 (Below w.heap.size w w'))
    case atStart => exact ⟨(0), rfl, H', HB⟩
    case round =>
      clear H' HB
      obtain ⟨x11, rfl, HA, HB⟩ := hrel
      cases gk with
      | zero => exact absurd HA.out (by simp [tree_Good.l0])
      | succ k1 =>
        have H := HA.out
        clear HA
        simp only [tree_Good.l0] at H
        by_cases c3 : x11 < (l0.length : Int)
        · rw [if_pos c3] at H
          have q154 := c3
          have c3b0 : decide (x11 < (l0.length : Int)) = true := decide_eq_true c3
          clear c3
          by_cases c4 : 0 ≤ x11
          · rw [if_pos c4] at H
            have p154 := c4
            have c4b0 : decide (0 ≤ x11) = true := decide_eq_true c4
            clear c4
            replace H := Option.bind_eq_some_iff.1 H
            obtain ⟨t_, hT, H⟩ := H
            obtain ⟨yl, hyl⟩ : ∃ y_, y_ = l0.take x11.toNat := ⟨_, rfl⟩
            rw [← hyl] at hT
            have HT := Aside0.mk hT
            obtain ⟨ad154, e154, hx154_0, hx154_1, hx154_2⟩ := at_T40 HR0.out x11 p154 q154
            cases e154
            have HC := Aside0.mk (show Kd.C k40 w (some ad154) yl.length yl from hyl ▸ Kd.C_take (m := x11.toNat) HR0.out (by omega))
            have hlen : yl.length = x11.toNat := by rw [hyl, List.length_take]; omega
            have HK := Aside0.mk (show yl.length ≤ c0 by have := HC0.out; omega)
            obtain ⟨i07, hi07, _, hsz7, _⟩ := info_parts info40
            have hcut7 := cut_to (P := Try.prog) 22 40 .i64 Try.underlying22 hi07 (some ad154) l0.length c0 x11 p154 (by have := HC0.out; omega) HC0.out
            rw [← hlen] at hcut7
            clear hi07 hsz7
            have HLEN := Aside0.mk hlen
            clear hlen hyl
            replace hx154_0 := (HB.out.cell (World.block_lt_of_cell? w _ hx154_0)).trans hx154_0
            replace hx154_1 := (HB.out.cell (World.block_lt_of_cell? w _ hx154_1)).trans hx154_1
            replace hx154_2 := (HB.out.cell (World.block_lt_of_cell? w _ hx154_2)).trans hx154_2
            replace p154 := eq_true p154
            replace q154 := eq_true q154
            clear hT
            unfold tree_Good.bad at H
            obtain ⟨p2, q2⟩ : ∃ p, ((rd_T40 l0 x11).f0.toList == []) = p := ⟨_, rfl⟩
            obtain ⟨p3, q3⟩ : ∃ p, decide (16 < ((rd_T40 l0 x11).f0.size : Int)) = p := ⟨_, rfl⟩
            obtain ⟨p4, q4⟩ : ∃ p, decide ((rd_T40 l0 x11).f1 < -1) = p := ⟨_, rfl⟩
            obtain ⟨p5, q5⟩ : ∃ p, decide (x11 ≤ (rd_T40 l0 x11).f1) = p := ⟨_, rfl⟩
            obtain ⟨p6, q6⟩ : ∃ p, decide ((rd_T40 l0 x11).f2 < 0) = p := ⟨_, rfl⟩
            obtain ⟨p7, q7⟩ : ∃ p, decide (1152921504606846976 < (rd_T40 l0 x11).f2) = p := ⟨_, rfl⟩
            rw [q2, q3, q4, q5, q6, q7] at H
            have H1 := Aside0.mk H
            clear H
            cases t_ with
            | true =>
              have H2 := H1.out
              obtain rfl : r = false := by simpa using H2.symm
              clear H1 H2
              go_wp2_with (first | ((with_reducible refine gate_dst (N := 4) rfl ?_); refine box_event ?hg (N := 4) ?hd (cs := #[.string (⟨#[]⟩ : ByteArray), .int .i64 0, .int .i64 0]) (t := 40) ?hr ?_; (case hd => rfl); (case hg => rfl); (case hr => first | (go_simp; done) | (go_simp; rfl)); intro gb155 hg w7 hbox hb; have n0_ := Aside0.mk (below_step (by repeat (first | (with_reducible first | exact HB.out | apply below_alloc | apply pw_below_drewN | apply below_drew1) | exact HB.out)) hb); have n1_ := Aside0.mk (hbox); have n2_ := Aside0.mk ((by rw [hg]; exact (below_size (by repeat (first | (with_reducible first | exact HB.out | apply below_alloc | apply pw_below_drewN | apply below_drew1) | exact HB.out)))) : w.heap.size ≤ gb155); clear HB; have HB := n0_; have BK155 := n1_; have GE155 := n2_; clear n0_ n1_ n2_; clear hb hbox hg; have hcz13_0 : w7.cell? ⟨gb155, 0, none⟩ = some (.string (⟨#[]⟩ : ByteArray)) := (blk_cell BK155.out 0).trans rfl; have hcz13_1 : w7.cell? ⟨gb155, 1, none⟩ = some (.int .i64 0) := (blk_cell BK155.out 1).trans rfl; have hcz13_2 : w7.cell? ⟨gb155, 2, none⟩ = some (.int .i64 0) := (blk_cell BK155.out 2).trans rfl; have hfz13_0 := blk_frozen BK155.out 0; have hfz13_1 := blk_frozen BK155.out 1; have hfz13_2 := blk_frozen BK155.out 2) | (go_at_call 18; with_reducible refine (slices_ContainsFunc.calls k1 _ c0 yl gb155 (rd_T40 l0 x11).f0 _ _ ?side1 ?side2 ?side3 HT.out).mono ?_; (case side1 => exact Kd.C_below HC.out (by repeat (first | (with_reducible first | exact HB.out | apply below_alloc | apply pw_below_drewN | apply below_drew1 | refine below_set ?_ GE155.out) | exact HB.out))); (case side2 => exact HK.out); (case side3 => exact (blk_cell (t := 40) (by (with_reducible repeat (first | refine blk_drewN ?_ _ | refine blk_drew ?_ | refine blk_alloc ?_ _)); refine blk_put (cs := #[.string ((rd_T40 l0 x11).f0), .int .i64 ((rd_T40 l0 x11).f1), .int .i64 0]) ?_ 2 _ rfl; (with_reducible repeat (first | refine blk_drewN ?_ _ | refine blk_drew ?_ | refine blk_alloc ?_ _)); refine blk_put (cs := #[.string ((rd_T40 l0 x11).f0), .int .i64 0, .int .i64 0]) ?_ 1 _ rfl; (with_reducible repeat (first | refine blk_drewN ?_ _ | refine blk_drew ?_ | refine blk_alloc ?_ _)); refine blk_put (cs := #[.string (⟨#[]⟩ : ByteArray), .int .i64 0, .int .i64 0]) ?_ 0 _ rfl; (with_reducible repeat (first | refine blk_drewN ?_ _ | refine blk_drew ?_ | refine blk_alloc ?_ _)); exact BK155.out) 0).trans rfl); rintro e w14 ⟨rfl, hb⟩; have n0_ := Aside0.mk (blk_below (g := gb155) (o := .cells #[.string ((rd_T40 l0 x11).f0), .int .i64 ((rd_T40 l0 x11).f1), .int .i64 ((rd_T40 l0 x11).f2)] 40 (0, 0)) (by (with_reducible repeat (first | refine blk_drewN ?_ _ | refine blk_drew ?_ | refine blk_alloc ?_ _)); refine blk_put (cs := #[.string ((rd_T40 l0 x11).f0), .int .i64 ((rd_T40 l0 x11).f1), .int .i64 0]) ?_ 2 _ rfl; (with_reducible repeat (first | refine blk_drewN ?_ _ | refine blk_drew ?_ | refine blk_alloc ?_ _)); refine blk_put (cs := #[.string ((rd_T40 l0 x11).f0), .int .i64 0, .int .i64 0]) ?_ 1 _ rfl; (with_reducible repeat (first | refine blk_drewN ?_ _ | refine blk_drew ?_ | refine blk_alloc ?_ _)); refine blk_put (cs := #[.string (⟨#[]⟩ : ByteArray), .int .i64 0, .int .i64 0]) ?_ 0 _ rfl; (with_reducible repeat (first | refine blk_drewN ?_ _ | refine blk_drew ?_ | refine blk_alloc ?_ _)); exact BK155.out) hb); have n1_ := Aside0.mk (below_step (by repeat (first | (with_reducible first | exact HB.out | apply below_alloc | apply pw_below_drewN | apply below_drew1 | refine below_set ?_ GE155.out) | exact HB.out)) hb); clear BK155; clear HB; have BK155 := n0_; have HB := n1_; clear n0_ n1_; (try clear hb); have hcz15_0 : w14.cell? ⟨gb155, 0, none⟩ = some (.string ((rd_T40 l0 x11).f0)) := (blk_cell BK155.out 0).trans rfl; have hcz15_1 : w14.cell? ⟨gb155, 1, none⟩ = some (.int .i64 ((rd_T40 l0 x11).f1)) := (blk_cell BK155.out 1).trans rfl; have hcz15_2 : w14.cell? ⟨gb155, 2, none⟩ = some (.int .i64 ((rd_T40 l0 x11).f2)) := (blk_cell BK155.out 2).trans rfl))
              go_ret
              exact ⟨rfl, by repeat (first | (with_reducible first | exact HB.out | apply below_alloc | apply pw_below_drewN | apply below_drew1 | refine below_set ?_ GE155.out) | exact HB.out)⟩
            | false =>
              cases p2 with
              | true =>
                have H2 := H1.out
                obtain rfl : r = false := by simpa using H2.symm
                clear H1 H2
                go_wp2_with (first | ((with_reducible refine gate_dst (N := 4) rfl ?_); refine box_event ?hg (N := 4) ?hd (cs := #[.string (⟨#[]⟩ : ByteArray), .int .i64 0, .int .i64 0]) (t := 40) ?hr ?_; (case hd => rfl); (case hg => rfl); (case hr => first | (go_simp; done) | (go_simp; rfl)); intro gb155 hg w7 hbox hb; have n0_ := Aside0.mk (below_step (by repeat (first | (with_reducible first | exact HB.out | apply below_alloc | apply pw_below_drewN | apply below_drew1) | exact HB.out)) hb); have n1_ := Aside0.mk (hbox); have n2_ := Aside0.mk ((by rw [hg]; exact (below_size (by repeat (first | (with_reducible first | exact HB.out | apply below_alloc | apply pw_below_drewN | apply below_drew1) | exact HB.out)))) : w.heap.size ≤ gb155); clear HB; have HB := n0_; have BK155 := n1_; have GE155 := n2_; clear n0_ n1_ n2_; clear hb hbox hg; have hcz13_0 : w7.cell? ⟨gb155, 0, none⟩ = some (.string (⟨#[]⟩ : ByteArray)) := (blk_cell BK155.out 0).trans rfl; have hcz13_1 : w7.cell? ⟨gb155, 1, none⟩ = some (.int .i64 0) := (blk_cell BK155.out 1).trans rfl; have hcz13_2 : w7.cell? ⟨gb155, 2, none⟩ = some (.int .i64 0) := (blk_cell BK155.out 2).trans rfl; have hfz13_0 := blk_frozen BK155.out 0; have hfz13_1 := blk_frozen BK155.out 1; have hfz13_2 := blk_frozen BK155.out 2) | (go_at_call 18; with_reducible refine (slices_ContainsFunc.calls k1 _ c0 yl gb155 (rd_T40 l0 x11).f0 _ _ ?side1 ?side2 ?side3 HT.out).mono ?_; (case side1 => exact Kd.C_below HC.out (by repeat (first | (with_reducible first | exact HB.out | apply below_alloc | apply pw_below_drewN | apply below_drew1 | refine below_set ?_ GE155.out) | exact HB.out))); (case side2 => exact HK.out); (case side3 => exact (blk_cell (t := 40) (by (with_reducible repeat (first | refine blk_drewN ?_ _ | refine blk_drew ?_ | refine blk_alloc ?_ _)); refine blk_put (cs := #[.string ((rd_T40 l0 x11).f0), .int .i64 ((rd_T40 l0 x11).f1), .int .i64 0]) ?_ 2 _ rfl; (with_reducible repeat (first | refine blk_drewN ?_ _ | refine blk_drew ?_ | refine blk_alloc ?_ _)); refine blk_put (cs := #[.string ((rd_T40 l0 x11).f0), .int .i64 0, .int .i64 0]) ?_ 1 _ rfl; (with_reducible repeat (first | refine blk_drewN ?_ _ | refine blk_drew ?_ | refine blk_alloc ?_ _)); refine blk_put (cs := #[.string (⟨#[]⟩ : ByteArray), .int .i64 0, .int .i64 0]) ?_ 0 _ rfl; (with_reducible repeat (first | refine blk_drewN ?_ _ | refine blk_drew ?_ | refine blk_alloc ?_ _)); exact BK155.out) 0).trans rfl); rintro e w14 ⟨rfl, hb⟩; have n0_ := Aside0.mk (blk_below (g := gb155) (o := .cells #[.string ((rd_T40 l0 x11).f0), .int .i64 ((rd_T40 l0 x11).f1), .int .i64 ((rd_T40 l0 x11).f2)] 40 (0, 0)) (by (with_reducible repeat (first | refine blk_drewN ?_ _ | refine blk_drew ?_ | refine blk_alloc ?_ _)); refine blk_put (cs := #[.string ((rd_T40 l0 x11).f0), .int .i64 ((rd_T40 l0 x11).f1), .int .i64 0]) ?_ 2 _ rfl; (with_reducible repeat (first | refine blk_drewN ?_ _ | refine blk_drew ?_ | refine blk_alloc ?_ _)); refine blk_put (cs := #[.string ((rd_T40 l0 x11).f0), .int .i64 0, .int .i64 0]) ?_ 1 _ rfl; (with_reducible repeat (first | refine blk_drewN ?_ _ | refine blk_drew ?_ | refine blk_alloc ?_ _)); refine blk_put (cs := #[.string (⟨#[]⟩ : ByteArray), .int .i64 0, .int .i64 0]) ?_ 0 _ rfl; (with_reducible repeat (first | refine blk_drewN ?_ _ | refine blk_drew ?_ | refine blk_alloc ?_ _)); exact BK155.out) hb); have n1_ := Aside0.mk (below_step (by repeat (first | (with_reducible first | exact HB.out | apply below_alloc | apply pw_below_drewN | apply below_drew1 | refine below_set ?_ GE155.out) | exact HB.out)) hb); clear BK155; clear HB; have BK155 := n0_; have HB := n1_; clear n0_ n1_; (try clear hb); have hcz15_0 : w14.cell? ⟨gb155, 0, none⟩ = some (.string ((rd_T40 l0 x11).f0)) := (blk_cell BK155.out 0).trans rfl; have hcz15_1 : w14.cell? ⟨gb155, 1, none⟩ = some (.int .i64 ((rd_T40 l0 x11).f1)) := (blk_cell BK155.out 1).trans rfl; have hcz15_2 : w14.cell? ⟨gb155, 2, none⟩ = some (.int .i64 ((rd_T40 l0 x11).f2)) := (blk_cell BK155.out 2).trans rfl))
                go_ret
                exact ⟨rfl, by repeat (first | (with_reducible first | exact HB.out | apply below_alloc | apply pw_below_drewN | apply below_drew1 | refine below_set ?_ GE155.out) | exact HB.out)⟩
              | false =>
                cases p3 with
                | true =>
                  have H2 := H1.out
                  obtain rfl : r = false := by simpa using H2.symm
                  clear H1 H2
                  go_wp2_with (first | ((with_reducible refine gate_dst (N := 4) rfl ?_); refine box_event ?hg (N := 4) ?hd (cs := #[.string (⟨#[]⟩ : ByteArray), .int .i64 0, .int .i64 0]) (t := 40) ?hr ?_; (case hd => rfl); (case hg => rfl); (case hr => first | (go_simp; done) | (go_simp; rfl)); intro gb155 hg w7 hbox hb; have n0_ := Aside0.mk (below_step (by repeat (first | (with_reducible first | exact HB.out | apply below_alloc | apply pw_below_drewN | apply below_drew1) | exact HB.out)) hb); have n1_ := Aside0.mk (hbox); have n2_ := Aside0.mk ((by rw [hg]; exact (below_size (by repeat (first | (with_reducible first | exact HB.out | apply below_alloc | apply pw_below_drewN | apply below_drew1) | exact HB.out)))) : w.heap.size ≤ gb155); clear HB; have HB := n0_; have BK155 := n1_; have GE155 := n2_; clear n0_ n1_ n2_; clear hb hbox hg; have hcz13_0 : w7.cell? ⟨gb155, 0, none⟩ = some (.string (⟨#[]⟩ : ByteArray)) := (blk_cell BK155.out 0).trans rfl; have hcz13_1 : w7.cell? ⟨gb155, 1, none⟩ = some (.int .i64 0) := (blk_cell BK155.out 1).trans rfl; have hcz13_2 : w7.cell? ⟨gb155, 2, none⟩ = some (.int .i64 0) := (blk_cell BK155.out 2).trans rfl; have hfz13_0 := blk_frozen BK155.out 0; have hfz13_1 := blk_frozen BK155.out 1; have hfz13_2 := blk_frozen BK155.out 2) | (go_at_call 18; with_reducible refine (slices_ContainsFunc.calls k1 _ c0 yl gb155 (rd_T40 l0 x11).f0 _ _ ?side1 ?side2 ?side3 HT.out).mono ?_; (case side1 => exact Kd.C_below HC.out (by repeat (first | (with_reducible first | exact HB.out | apply below_alloc | apply pw_below_drewN | apply below_drew1 | refine below_set ?_ GE155.out) | exact HB.out))); (case side2 => exact HK.out); (case side3 => exact (blk_cell (t := 40) (by (with_reducible repeat (first | refine blk_drewN ?_ _ | refine blk_drew ?_ | refine blk_alloc ?_ _)); refine blk_put (cs := #[.string ((rd_T40 l0 x11).f0), .int .i64 ((rd_T40 l0 x11).f1), .int .i64 0]) ?_ 2 _ rfl; (with_reducible repeat (first | refine blk_drewN ?_ _ | refine blk_drew ?_ | refine blk_alloc ?_ _)); refine blk_put (cs := #[.string ((rd_T40 l0 x11).f0), .int .i64 0, .int .i64 0]) ?_ 1 _ rfl; (with_reducible repeat (first | refine blk_drewN ?_ _ | refine blk_drew ?_ | refine blk_alloc ?_ _)); refine blk_put (cs := #[.string (⟨#[]⟩ : ByteArray), .int .i64 0, .int .i64 0]) ?_ 0 _ rfl; (with_reducible repeat (first | refine blk_drewN ?_ _ | refine blk_drew ?_ | refine blk_alloc ?_ _)); exact BK155.out) 0).trans rfl); rintro e w14 ⟨rfl, hb⟩; have n0_ := Aside0.mk (blk_below (g := gb155) (o := .cells #[.string ((rd_T40 l0 x11).f0), .int .i64 ((rd_T40 l0 x11).f1), .int .i64 ((rd_T40 l0 x11).f2)] 40 (0, 0)) (by (with_reducible repeat (first | refine blk_drewN ?_ _ | refine blk_drew ?_ | refine blk_alloc ?_ _)); refine blk_put (cs := #[.string ((rd_T40 l0 x11).f0), .int .i64 ((rd_T40 l0 x11).f1), .int .i64 0]) ?_ 2 _ rfl; (with_reducible repeat (first | refine blk_drewN ?_ _ | refine blk_drew ?_ | refine blk_alloc ?_ _)); refine blk_put (cs := #[.string ((rd_T40 l0 x11).f0), .int .i64 0, .int .i64 0]) ?_ 1 _ rfl; (with_reducible repeat (first | refine blk_drewN ?_ _ | refine blk_drew ?_ | refine blk_alloc ?_ _)); refine blk_put (cs := #[.string (⟨#[]⟩ : ByteArray), .int .i64 0, .int .i64 0]) ?_ 0 _ rfl; (with_reducible repeat (first | refine blk_drewN ?_ _ | refine blk_drew ?_ | refine blk_alloc ?_ _)); exact BK155.out) hb); have n1_ := Aside0.mk (below_step (by repeat (first | (with_reducible first | exact HB.out | apply below_alloc | apply pw_below_drewN | apply below_drew1 | refine below_set ?_ GE155.out) | exact HB.out)) hb); clear BK155; clear HB; have BK155 := n0_; have HB := n1_; clear n0_ n1_; (try clear hb); have hcz15_0 : w14.cell? ⟨gb155, 0, none⟩ = some (.string ((rd_T40 l0 x11).f0)) := (blk_cell BK155.out 0).trans rfl; have hcz15_1 : w14.cell? ⟨gb155, 1, none⟩ = some (.int .i64 ((rd_T40 l0 x11).f1)) := (blk_cell BK155.out 1).trans rfl; have hcz15_2 : w14.cell? ⟨gb155, 2, none⟩ = some (.int .i64 ((rd_T40 l0 x11).f2)) := (blk_cell BK155.out 2).trans rfl))
                  go_ret
                  exact ⟨rfl, by repeat (first | (with_reducible first | exact HB.out | apply below_alloc | apply pw_below_drewN | apply below_drew1 | refine below_set ?_ GE155.out) | exact HB.out)⟩
                | false =>
                  cases p4 with
                  | true =>
                    have H2 := H1.out
                    obtain rfl : r = false := by simpa using H2.symm
                    clear H1 H2
                    go_wp2_with (first | ((with_reducible refine gate_dst (N := 4) rfl ?_); refine box_event ?hg (N := 4) ?hd (cs := #[.string (⟨#[]⟩ : ByteArray), .int .i64 0, .int .i64 0]) (t := 40) ?hr ?_; (case hd => rfl); (case hg => rfl); (case hr => first | (go_simp; done) | (go_simp; rfl)); intro gb155 hg w7 hbox hb; have n0_ := Aside0.mk (below_step (by repeat (first | (with_reducible first | exact HB.out | apply below_alloc | apply pw_below_drewN | apply below_drew1) | exact HB.out)) hb); have n1_ := Aside0.mk (hbox); have n2_ := Aside0.mk ((by rw [hg]; exact (below_size (by repeat (first | (with_reducible first | exact HB.out | apply below_alloc | apply pw_below_drewN | apply below_drew1) | exact HB.out)))) : w.heap.size ≤ gb155); clear HB; have HB := n0_; have BK155 := n1_; have GE155 := n2_; clear n0_ n1_ n2_; clear hb hbox hg; have hcz13_0 : w7.cell? ⟨gb155, 0, none⟩ = some (.string (⟨#[]⟩ : ByteArray)) := (blk_cell BK155.out 0).trans rfl; have hcz13_1 : w7.cell? ⟨gb155, 1, none⟩ = some (.int .i64 0) := (blk_cell BK155.out 1).trans rfl; have hcz13_2 : w7.cell? ⟨gb155, 2, none⟩ = some (.int .i64 0) := (blk_cell BK155.out 2).trans rfl; have hfz13_0 := blk_frozen BK155.out 0; have hfz13_1 := blk_frozen BK155.out 1; have hfz13_2 := blk_frozen BK155.out 2) | (go_at_call 18; with_reducible refine (slices_ContainsFunc.calls k1 _ c0 yl gb155 (rd_T40 l0 x11).f0 _ _ ?side1 ?side2 ?side3 HT.out).mono ?_; (case side1 => exact Kd.C_below HC.out (by repeat (first | (with_reducible first | exact HB.out | apply below_alloc | apply pw_below_drewN | apply below_drew1 | refine below_set ?_ GE155.out) | exact HB.out))); (case side2 => exact HK.out); (case side3 => exact (blk_cell (t := 40) (by (with_reducible repeat (first | refine blk_drewN ?_ _ | refine blk_drew ?_ | refine blk_alloc ?_ _)); refine blk_put (cs := #[.string ((rd_T40 l0 x11).f0), .int .i64 ((rd_T40 l0 x11).f1), .int .i64 0]) ?_ 2 _ rfl; (with_reducible repeat (first | refine blk_drewN ?_ _ | refine blk_drew ?_ | refine blk_alloc ?_ _)); refine blk_put (cs := #[.string ((rd_T40 l0 x11).f0), .int .i64 0, .int .i64 0]) ?_ 1 _ rfl; (with_reducible repeat (first | refine blk_drewN ?_ _ | refine blk_drew ?_ | refine blk_alloc ?_ _)); refine blk_put (cs := #[.string (⟨#[]⟩ : ByteArray), .int .i64 0, .int .i64 0]) ?_ 0 _ rfl; (with_reducible repeat (first | refine blk_drewN ?_ _ | refine blk_drew ?_ | refine blk_alloc ?_ _)); exact BK155.out) 0).trans rfl); rintro e w14 ⟨rfl, hb⟩; have n0_ := Aside0.mk (blk_below (g := gb155) (o := .cells #[.string ((rd_T40 l0 x11).f0), .int .i64 ((rd_T40 l0 x11).f1), .int .i64 ((rd_T40 l0 x11).f2)] 40 (0, 0)) (by (with_reducible repeat (first | refine blk_drewN ?_ _ | refine blk_drew ?_ | refine blk_alloc ?_ _)); refine blk_put (cs := #[.string ((rd_T40 l0 x11).f0), .int .i64 ((rd_T40 l0 x11).f1), .int .i64 0]) ?_ 2 _ rfl; (with_reducible repeat (first | refine blk_drewN ?_ _ | refine blk_drew ?_ | refine blk_alloc ?_ _)); refine blk_put (cs := #[.string ((rd_T40 l0 x11).f0), .int .i64 0, .int .i64 0]) ?_ 1 _ rfl; (with_reducible repeat (first | refine blk_drewN ?_ _ | refine blk_drew ?_ | refine blk_alloc ?_ _)); refine blk_put (cs := #[.string (⟨#[]⟩ : ByteArray), .int .i64 0, .int .i64 0]) ?_ 0 _ rfl; (with_reducible repeat (first | refine blk_drewN ?_ _ | refine blk_drew ?_ | refine blk_alloc ?_ _)); exact BK155.out) hb); have n1_ := Aside0.mk (below_step (by repeat (first | (with_reducible first | exact HB.out | apply below_alloc | apply pw_below_drewN | apply below_drew1 | refine below_set ?_ GE155.out) | exact HB.out)) hb); clear BK155; clear HB; have BK155 := n0_; have HB := n1_; clear n0_ n1_; (try clear hb); have hcz15_0 : w14.cell? ⟨gb155, 0, none⟩ = some (.string ((rd_T40 l0 x11).f0)) := (blk_cell BK155.out 0).trans rfl; have hcz15_1 : w14.cell? ⟨gb155, 1, none⟩ = some (.int .i64 ((rd_T40 l0 x11).f1)) := (blk_cell BK155.out 1).trans rfl; have hcz15_2 : w14.cell? ⟨gb155, 2, none⟩ = some (.int .i64 ((rd_T40 l0 x11).f2)) := (blk_cell BK155.out 2).trans rfl))
                    go_ret
                    exact ⟨rfl, by repeat (first | (with_reducible first | exact HB.out | apply below_alloc | apply pw_below_drewN | apply below_drew1 | refine below_set ?_ GE155.out) | exact HB.out)⟩
                  | false =>
                    cases p5 with
                    | true =>
                      have H2 := H1.out
                      obtain rfl : r = false := by simpa using H2.symm
                      clear H1 H2
                      go_wp2_with (first | ((with_reducible refine gate_dst (N := 4) rfl ?_); refine box_event ?hg (N := 4) ?hd (cs := #[.string (⟨#[]⟩ : ByteArray), .int .i64 0, .int .i64 0]) (t := 40) ?hr ?_; (case hd => rfl); (case hg => rfl); (case hr => first | (go_simp; done) | (go_simp; rfl)); intro gb155 hg w7 hbox hb; have n0_ := Aside0.mk (below_step (by repeat (first | (with_reducible first | exact HB.out | apply below_alloc | apply pw_below_drewN | apply below_drew1) | exact HB.out)) hb); have n1_ := Aside0.mk (hbox); have n2_ := Aside0.mk ((by rw [hg]; exact (below_size (by repeat (first | (with_reducible first | exact HB.out | apply below_alloc | apply pw_below_drewN | apply below_drew1) | exact HB.out)))) : w.heap.size ≤ gb155); clear HB; have HB := n0_; have BK155 := n1_; have GE155 := n2_; clear n0_ n1_ n2_; clear hb hbox hg; have hcz13_0 : w7.cell? ⟨gb155, 0, none⟩ = some (.string (⟨#[]⟩ : ByteArray)) := (blk_cell BK155.out 0).trans rfl; have hcz13_1 : w7.cell? ⟨gb155, 1, none⟩ = some (.int .i64 0) := (blk_cell BK155.out 1).trans rfl; have hcz13_2 : w7.cell? ⟨gb155, 2, none⟩ = some (.int .i64 0) := (blk_cell BK155.out 2).trans rfl; have hfz13_0 := blk_frozen BK155.out 0; have hfz13_1 := blk_frozen BK155.out 1; have hfz13_2 := blk_frozen BK155.out 2) | (go_at_call 18; with_reducible refine (slices_ContainsFunc.calls k1 _ c0 yl gb155 (rd_T40 l0 x11).f0 _ _ ?side1 ?side2 ?side3 HT.out).mono ?_; (case side1 => exact Kd.C_below HC.out (by repeat (first | (with_reducible first | exact HB.out | apply below_alloc | apply pw_below_drewN | apply below_drew1 | refine below_set ?_ GE155.out) | exact HB.out))); (case side2 => exact HK.out); (case side3 => exact (blk_cell (t := 40) (by (with_reducible repeat (first | refine blk_drewN ?_ _ | refine blk_drew ?_ | refine blk_alloc ?_ _)); refine blk_put (cs := #[.string ((rd_T40 l0 x11).f0), .int .i64 ((rd_T40 l0 x11).f1), .int .i64 0]) ?_ 2 _ rfl; (with_reducible repeat (first | refine blk_drewN ?_ _ | refine blk_drew ?_ | refine blk_alloc ?_ _)); refine blk_put (cs := #[.string ((rd_T40 l0 x11).f0), .int .i64 0, .int .i64 0]) ?_ 1 _ rfl; (with_reducible repeat (first | refine blk_drewN ?_ _ | refine blk_drew ?_ | refine blk_alloc ?_ _)); refine blk_put (cs := #[.string (⟨#[]⟩ : ByteArray), .int .i64 0, .int .i64 0]) ?_ 0 _ rfl; (with_reducible repeat (first | refine blk_drewN ?_ _ | refine blk_drew ?_ | refine blk_alloc ?_ _)); exact BK155.out) 0).trans rfl); rintro e w14 ⟨rfl, hb⟩; have n0_ := Aside0.mk (blk_below (g := gb155) (o := .cells #[.string ((rd_T40 l0 x11).f0), .int .i64 ((rd_T40 l0 x11).f1), .int .i64 ((rd_T40 l0 x11).f2)] 40 (0, 0)) (by (with_reducible repeat (first | refine blk_drewN ?_ _ | refine blk_drew ?_ | refine blk_alloc ?_ _)); refine blk_put (cs := #[.string ((rd_T40 l0 x11).f0), .int .i64 ((rd_T40 l0 x11).f1), .int .i64 0]) ?_ 2 _ rfl; (with_reducible repeat (first | refine blk_drewN ?_ _ | refine blk_drew ?_ | refine blk_alloc ?_ _)); refine blk_put (cs := #[.string ((rd_T40 l0 x11).f0), .int .i64 0, .int .i64 0]) ?_ 1 _ rfl; (with_reducible repeat (first | refine blk_drewN ?_ _ | refine blk_drew ?_ | refine blk_alloc ?_ _)); refine blk_put (cs := #[.string (⟨#[]⟩ : ByteArray), .int .i64 0, .int .i64 0]) ?_ 0 _ rfl; (with_reducible repeat (first | refine blk_drewN ?_ _ | refine blk_drew ?_ | refine blk_alloc ?_ _)); exact BK155.out) hb); have n1_ := Aside0.mk (below_step (by repeat (first | (with_reducible first | exact HB.out | apply below_alloc | apply pw_below_drewN | apply below_drew1 | refine below_set ?_ GE155.out) | exact HB.out)) hb); clear BK155; clear HB; have BK155 := n0_; have HB := n1_; clear n0_ n1_; (try clear hb); have hcz15_0 : w14.cell? ⟨gb155, 0, none⟩ = some (.string ((rd_T40 l0 x11).f0)) := (blk_cell BK155.out 0).trans rfl; have hcz15_1 : w14.cell? ⟨gb155, 1, none⟩ = some (.int .i64 ((rd_T40 l0 x11).f1)) := (blk_cell BK155.out 1).trans rfl; have hcz15_2 : w14.cell? ⟨gb155, 2, none⟩ = some (.int .i64 ((rd_T40 l0 x11).f2)) := (blk_cell BK155.out 2).trans rfl))
                      go_ret
                      exact ⟨rfl, by repeat (first | (with_reducible first | exact HB.out | apply below_alloc | apply pw_below_drewN | apply below_drew1 | refine below_set ?_ GE155.out) | exact HB.out)⟩
                    | false =>
                      cases p6 with
                      | true =>
                        have H2 := H1.out
                        obtain rfl : r = false := by simpa using H2.symm
                        clear H1 H2
                        go_wp2_with (first | ((with_reducible refine gate_dst (N := 4) rfl ?_); refine box_event ?hg (N := 4) ?hd (cs := #[.string (⟨#[]⟩ : ByteArray), .int .i64 0, .int .i64 0]) (t := 40) ?hr ?_; (case hd => rfl); (case hg => rfl); (case hr => first | (go_simp; done) | (go_simp; rfl)); intro gb155 hg w7 hbox hb; have n0_ := Aside0.mk (below_step (by repeat (first | (with_reducible first | exact HB.out | apply below_alloc | apply pw_below_drewN | apply below_drew1) | exact HB.out)) hb); have n1_ := Aside0.mk (hbox); have n2_ := Aside0.mk ((by rw [hg]; exact (below_size (by repeat (first | (with_reducible first | exact HB.out | apply below_alloc | apply pw_below_drewN | apply below_drew1) | exact HB.out)))) : w.heap.size ≤ gb155); clear HB; have HB := n0_; have BK155 := n1_; have GE155 := n2_; clear n0_ n1_ n2_; clear hb hbox hg; have hcz13_0 : w7.cell? ⟨gb155, 0, none⟩ = some (.string (⟨#[]⟩ : ByteArray)) := (blk_cell BK155.out 0).trans rfl; have hcz13_1 : w7.cell? ⟨gb155, 1, none⟩ = some (.int .i64 0) := (blk_cell BK155.out 1).trans rfl; have hcz13_2 : w7.cell? ⟨gb155, 2, none⟩ = some (.int .i64 0) := (blk_cell BK155.out 2).trans rfl; have hfz13_0 := blk_frozen BK155.out 0; have hfz13_1 := blk_frozen BK155.out 1; have hfz13_2 := blk_frozen BK155.out 2) | (go_at_call 18; with_reducible refine (slices_ContainsFunc.calls k1 _ c0 yl gb155 (rd_T40 l0 x11).f0 _ _ ?side1 ?side2 ?side3 HT.out).mono ?_; (case side1 => exact Kd.C_below HC.out (by repeat (first | (with_reducible first | exact HB.out | apply below_alloc | apply pw_below_drewN | apply below_drew1 | refine below_set ?_ GE155.out) | exact HB.out))); (case side2 => exact HK.out); (case side3 => exact (blk_cell (t := 40) (by (with_reducible repeat (first | refine blk_drewN ?_ _ | refine blk_drew ?_ | refine blk_alloc ?_ _)); refine blk_put (cs := #[.string ((rd_T40 l0 x11).f0), .int .i64 ((rd_T40 l0 x11).f1), .int .i64 0]) ?_ 2 _ rfl; (with_reducible repeat (first | refine blk_drewN ?_ _ | refine blk_drew ?_ | refine blk_alloc ?_ _)); refine blk_put (cs := #[.string ((rd_T40 l0 x11).f0), .int .i64 0, .int .i64 0]) ?_ 1 _ rfl; (with_reducible repeat (first | refine blk_drewN ?_ _ | refine blk_drew ?_ | refine blk_alloc ?_ _)); refine blk_put (cs := #[.string (⟨#[]⟩ : ByteArray), .int .i64 0, .int .i64 0]) ?_ 0 _ rfl; (with_reducible repeat (first | refine blk_drewN ?_ _ | refine blk_drew ?_ | refine blk_alloc ?_ _)); exact BK155.out) 0).trans rfl); rintro e w14 ⟨rfl, hb⟩; have n0_ := Aside0.mk (blk_below (g := gb155) (o := .cells #[.string ((rd_T40 l0 x11).f0), .int .i64 ((rd_T40 l0 x11).f1), .int .i64 ((rd_T40 l0 x11).f2)] 40 (0, 0)) (by (with_reducible repeat (first | refine blk_drewN ?_ _ | refine blk_drew ?_ | refine blk_alloc ?_ _)); refine blk_put (cs := #[.string ((rd_T40 l0 x11).f0), .int .i64 ((rd_T40 l0 x11).f1), .int .i64 0]) ?_ 2 _ rfl; (with_reducible repeat (first | refine blk_drewN ?_ _ | refine blk_drew ?_ | refine blk_alloc ?_ _)); refine blk_put (cs := #[.string ((rd_T40 l0 x11).f0), .int .i64 0, .int .i64 0]) ?_ 1 _ rfl; (with_reducible repeat (first | refine blk_drewN ?_ _ | refine blk_drew ?_ | refine blk_alloc ?_ _)); refine blk_put (cs := #[.string (⟨#[]⟩ : ByteArray), .int .i64 0, .int .i64 0]) ?_ 0 _ rfl; (with_reducible repeat (first | refine blk_drewN ?_ _ | refine blk_drew ?_ | refine blk_alloc ?_ _)); exact BK155.out) hb); have n1_ := Aside0.mk (below_step (by repeat (first | (with_reducible first | exact HB.out | apply below_alloc | apply pw_below_drewN | apply below_drew1 | refine below_set ?_ GE155.out) | exact HB.out)) hb); clear BK155; clear HB; have BK155 := n0_; have HB := n1_; clear n0_ n1_; (try clear hb); have hcz15_0 : w14.cell? ⟨gb155, 0, none⟩ = some (.string ((rd_T40 l0 x11).f0)) := (blk_cell BK155.out 0).trans rfl; have hcz15_1 : w14.cell? ⟨gb155, 1, none⟩ = some (.int .i64 ((rd_T40 l0 x11).f1)) := (blk_cell BK155.out 1).trans rfl; have hcz15_2 : w14.cell? ⟨gb155, 2, none⟩ = some (.int .i64 ((rd_T40 l0 x11).f2)) := (blk_cell BK155.out 2).trans rfl))
                        go_ret
                        exact ⟨rfl, by repeat (first | (with_reducible first | exact HB.out | apply below_alloc | apply pw_below_drewN | apply below_drew1 | refine below_set ?_ GE155.out) | exact HB.out)⟩
                      | false =>
                        cases p7 with
                        | true =>
                          have H2 := H1.out
                          obtain rfl : r = false := by simpa using H2.symm
                          clear H1 H2
                          go_wp2_with (first | ((with_reducible refine gate_dst (N := 4) rfl ?_); refine box_event ?hg (N := 4) ?hd (cs := #[.string (⟨#[]⟩ : ByteArray), .int .i64 0, .int .i64 0]) (t := 40) ?hr ?_; (case hd => rfl); (case hg => rfl); (case hr => first | (go_simp; done) | (go_simp; rfl)); intro gb155 hg w7 hbox hb; have n0_ := Aside0.mk (below_step (by repeat (first | (with_reducible first | exact HB.out | apply below_alloc | apply pw_below_drewN | apply below_drew1) | exact HB.out)) hb); have n1_ := Aside0.mk (hbox); have n2_ := Aside0.mk ((by rw [hg]; exact (below_size (by repeat (first | (with_reducible first | exact HB.out | apply below_alloc | apply pw_below_drewN | apply below_drew1) | exact HB.out)))) : w.heap.size ≤ gb155); clear HB; have HB := n0_; have BK155 := n1_; have GE155 := n2_; clear n0_ n1_ n2_; clear hb hbox hg; have hcz13_0 : w7.cell? ⟨gb155, 0, none⟩ = some (.string (⟨#[]⟩ : ByteArray)) := (blk_cell BK155.out 0).trans rfl; have hcz13_1 : w7.cell? ⟨gb155, 1, none⟩ = some (.int .i64 0) := (blk_cell BK155.out 1).trans rfl; have hcz13_2 : w7.cell? ⟨gb155, 2, none⟩ = some (.int .i64 0) := (blk_cell BK155.out 2).trans rfl; have hfz13_0 := blk_frozen BK155.out 0; have hfz13_1 := blk_frozen BK155.out 1; have hfz13_2 := blk_frozen BK155.out 2) | (go_at_call 18; with_reducible refine (slices_ContainsFunc.calls k1 _ c0 yl gb155 (rd_T40 l0 x11).f0 _ _ ?side1 ?side2 ?side3 HT.out).mono ?_; (case side1 => exact Kd.C_below HC.out (by repeat (first | (with_reducible first | exact HB.out | apply below_alloc | apply pw_below_drewN | apply below_drew1 | refine below_set ?_ GE155.out) | exact HB.out))); (case side2 => exact HK.out); (case side3 => exact (blk_cell (t := 40) (by (with_reducible repeat (first | refine blk_drewN ?_ _ | refine blk_drew ?_ | refine blk_alloc ?_ _)); refine blk_put (cs := #[.string ((rd_T40 l0 x11).f0), .int .i64 ((rd_T40 l0 x11).f1), .int .i64 0]) ?_ 2 _ rfl; (with_reducible repeat (first | refine blk_drewN ?_ _ | refine blk_drew ?_ | refine blk_alloc ?_ _)); refine blk_put (cs := #[.string ((rd_T40 l0 x11).f0), .int .i64 0, .int .i64 0]) ?_ 1 _ rfl; (with_reducible repeat (first | refine blk_drewN ?_ _ | refine blk_drew ?_ | refine blk_alloc ?_ _)); refine blk_put (cs := #[.string (⟨#[]⟩ : ByteArray), .int .i64 0, .int .i64 0]) ?_ 0 _ rfl; (with_reducible repeat (first | refine blk_drewN ?_ _ | refine blk_drew ?_ | refine blk_alloc ?_ _)); exact BK155.out) 0).trans rfl); rintro e w14 ⟨rfl, hb⟩; have n0_ := Aside0.mk (blk_below (g := gb155) (o := .cells #[.string ((rd_T40 l0 x11).f0), .int .i64 ((rd_T40 l0 x11).f1), .int .i64 ((rd_T40 l0 x11).f2)] 40 (0, 0)) (by (with_reducible repeat (first | refine blk_drewN ?_ _ | refine blk_drew ?_ | refine blk_alloc ?_ _)); refine blk_put (cs := #[.string ((rd_T40 l0 x11).f0), .int .i64 ((rd_T40 l0 x11).f1), .int .i64 0]) ?_ 2 _ rfl; (with_reducible repeat (first | refine blk_drewN ?_ _ | refine blk_drew ?_ | refine blk_alloc ?_ _)); refine blk_put (cs := #[.string ((rd_T40 l0 x11).f0), .int .i64 0, .int .i64 0]) ?_ 1 _ rfl; (with_reducible repeat (first | refine blk_drewN ?_ _ | refine blk_drew ?_ | refine blk_alloc ?_ _)); refine blk_put (cs := #[.string (⟨#[]⟩ : ByteArray), .int .i64 0, .int .i64 0]) ?_ 0 _ rfl; (with_reducible repeat (first | refine blk_drewN ?_ _ | refine blk_drew ?_ | refine blk_alloc ?_ _)); exact BK155.out) hb); have n1_ := Aside0.mk (below_step (by repeat (first | (with_reducible first | exact HB.out | apply below_alloc | apply pw_below_drewN | apply below_drew1 | refine below_set ?_ GE155.out) | exact HB.out)) hb); clear BK155; clear HB; have BK155 := n0_; have HB := n1_; clear n0_ n1_; (try clear hb); have hcz15_0 : w14.cell? ⟨gb155, 0, none⟩ = some (.string ((rd_T40 l0 x11).f0)) := (blk_cell BK155.out 0).trans rfl; have hcz15_1 : w14.cell? ⟨gb155, 1, none⟩ = some (.int .i64 ((rd_T40 l0 x11).f1)) := (blk_cell BK155.out 1).trans rfl; have hcz15_2 : w14.cell? ⟨gb155, 2, none⟩ = some (.int .i64 ((rd_T40 l0 x11).f2)) := (blk_cell BK155.out 2).trans rfl))
                          go_ret
                          exact ⟨rfl, by repeat (first | (with_reducible first | exact HB.out | apply below_alloc | apply pw_below_drewN | apply below_drew1 | refine below_set ?_ GE155.out) | exact HB.out)⟩
                        | false =>
                          have H2 := H1.out
                          have H3 : tree_Good.l0 k1 l0 (wrap64 (x11 + 1)) = some r := by simpa using H2
                          have H' := Aside0.mk H3
                          clear H1 H2 H3
                          go_wp2_with (first | ((with_reducible refine gate_dst (N := 4) rfl ?_); refine box_event ?hg (N := 4) ?hd (cs := #[.string (⟨#[]⟩ : ByteArray), .int .i64 0, .int .i64 0]) (t := 40) ?hr ?_; (case hd => rfl); (case hg => rfl); (case hr => first | (go_simp; done) | (go_simp; rfl)); intro gb155 hg w7 hbox hb; have n0_ := Aside0.mk (below_step (by repeat (first | (with_reducible first | exact HB.out | apply below_alloc | apply pw_below_drewN | apply below_drew1) | exact HB.out)) hb); have n1_ := Aside0.mk (hbox); have n2_ := Aside0.mk ((by rw [hg]; exact (below_size (by repeat (first | (with_reducible first | exact HB.out | apply below_alloc | apply pw_below_drewN | apply below_drew1) | exact HB.out)))) : w.heap.size ≤ gb155); clear HB; have HB := n0_; have BK155 := n1_; have GE155 := n2_; clear n0_ n1_ n2_; clear hb hbox hg; have hcz13_0 : w7.cell? ⟨gb155, 0, none⟩ = some (.string (⟨#[]⟩ : ByteArray)) := (blk_cell BK155.out 0).trans rfl; have hcz13_1 : w7.cell? ⟨gb155, 1, none⟩ = some (.int .i64 0) := (blk_cell BK155.out 1).trans rfl; have hcz13_2 : w7.cell? ⟨gb155, 2, none⟩ = some (.int .i64 0) := (blk_cell BK155.out 2).trans rfl; have hfz13_0 := blk_frozen BK155.out 0; have hfz13_1 := blk_frozen BK155.out 1; have hfz13_2 := blk_frozen BK155.out 2) | (go_at_call 18; with_reducible refine (slices_ContainsFunc.calls k1 _ c0 yl gb155 (rd_T40 l0 x11).f0 _ _ ?side1 ?side2 ?side3 HT.out).mono ?_; (case side1 => exact Kd.C_below HC.out (by repeat (first | (with_reducible first | exact HB.out | apply below_alloc | apply pw_below_drewN | apply below_drew1 | refine below_set ?_ GE155.out) | exact HB.out))); (case side2 => exact HK.out); (case side3 => exact (blk_cell (t := 40) (by (with_reducible repeat (first | refine blk_drewN ?_ _ | refine blk_drew ?_ | refine blk_alloc ?_ _)); refine blk_put (cs := #[.string ((rd_T40 l0 x11).f0), .int .i64 ((rd_T40 l0 x11).f1), .int .i64 0]) ?_ 2 _ rfl; (with_reducible repeat (first | refine blk_drewN ?_ _ | refine blk_drew ?_ | refine blk_alloc ?_ _)); refine blk_put (cs := #[.string ((rd_T40 l0 x11).f0), .int .i64 0, .int .i64 0]) ?_ 1 _ rfl; (with_reducible repeat (first | refine blk_drewN ?_ _ | refine blk_drew ?_ | refine blk_alloc ?_ _)); refine blk_put (cs := #[.string (⟨#[]⟩ : ByteArray), .int .i64 0, .int .i64 0]) ?_ 0 _ rfl; (with_reducible repeat (first | refine blk_drewN ?_ _ | refine blk_drew ?_ | refine blk_alloc ?_ _)); exact BK155.out) 0).trans rfl); rintro e w14 ⟨rfl, hb⟩; have n0_ := Aside0.mk (blk_below (g := gb155) (o := .cells #[.string ((rd_T40 l0 x11).f0), .int .i64 ((rd_T40 l0 x11).f1), .int .i64 ((rd_T40 l0 x11).f2)] 40 (0, 0)) (by (with_reducible repeat (first | refine blk_drewN ?_ _ | refine blk_drew ?_ | refine blk_alloc ?_ _)); refine blk_put (cs := #[.string ((rd_T40 l0 x11).f0), .int .i64 ((rd_T40 l0 x11).f1), .int .i64 0]) ?_ 2 _ rfl; (with_reducible repeat (first | refine blk_drewN ?_ _ | refine blk_drew ?_ | refine blk_alloc ?_ _)); refine blk_put (cs := #[.string ((rd_T40 l0 x11).f0), .int .i64 0, .int .i64 0]) ?_ 1 _ rfl; (with_reducible repeat (first | refine blk_drewN ?_ _ | refine blk_drew ?_ | refine blk_alloc ?_ _)); refine blk_put (cs := #[.string (⟨#[]⟩ : ByteArray), .int .i64 0, .int .i64 0]) ?_ 0 _ rfl; (with_reducible repeat (first | refine blk_drewN ?_ _ | refine blk_drew ?_ | refine blk_alloc ?_ _)); exact BK155.out) hb); have n1_ := Aside0.mk (below_step (by repeat (first | (with_reducible first | exact HB.out | apply below_alloc | apply pw_below_drewN | apply below_drew1 | refine below_set ?_ GE155.out) | exact HB.out)) hb); clear BK155; clear HB; have BK155 := n0_; have HB := n1_; clear n0_ n1_; (try clear hb); have hcz15_0 : w14.cell? ⟨gb155, 0, none⟩ = some (.string ((rd_T40 l0 x11).f0)) := (blk_cell BK155.out 0).trans rfl; have hcz15_1 : w14.cell? ⟨gb155, 1, none⟩ = some (.int .i64 ((rd_T40 l0 x11).f1)) := (blk_cell BK155.out 1).trans rfl; have hcz15_2 : w14.cell? ⟨gb155, 2, none⟩ = some (.int .i64 ((rd_T40 l0 x11).f2)) := (blk_cell BK155.out 2).trans rfl))
                          go_roundg k1
                          case measure => omega
                          case rel => exact ⟨wrap64 (x11 + 1), (by first | rfl | (simp; done)), H', ⟨by repeat (first | (with_reducible first | exact HB.out | apply below_alloc | apply pw_below_drewN | apply below_drew1 | refine below_set ?_ GE155.out) | exact HB.out)⟩⟩
          · rw [if_neg c4] at H; simp at H
        · rw [if_neg c3] at H
          obtain rfl := Option.some.inj H
          have c3b0 : decide (x11 < (l0.length : Int)) = false := decide_eq_false c3
          clear c3 H
          go_wp2
          go_ret
          exact ⟨rfl, HB.out⟩
end Go.Proofs.Ytfdlncakhnlgoaa.PAll
