/- Contracts of functions of the program, each with a plain function of the same answers; written by a program of this workplace. -/
import Derived.Test.YtkjkonkgcepanaaPAllx0
import Derived.Test.YtkjkonkgcepanaaPAllx2
import Derived.Test.YtkjkonkgcepanaaPAllx3
import Derived.Test.YtkjkonkgcepanaaPAllx5
namespace Go.Proofs.Ytkjkonkgcepanaa.PAll
open Go.RowKit Go.Proofs.YtkjkonkgcepanaaW.PrintWords Go.Proofs.YtkjkonkgcepanaaW.PrintLast Go.Proofs.YtkjkonkgcepanaaW.PrintMore
attribute [local go_sem] max2_int min2_int max_two min_two max_three min_three max_four min_four   -- for this text's walks alone
set_option linter.unusedVariables false
set_option linter.unusedSimpArgs false

/-! ### ledger_may: function 18 -/
-- beside ledger_place.calls, ledger_amounts.calls, money_Add.calls
def ledger_may.fin (k : Nat) (l2 : List S37) : Option Int := if l2.length = 0 ∨ 64 < l2.length then some 3 else (ledger_amounts.f k l2 true 0).bind fun t => (money_Add.f k t).bind fun p => some (if p.2 = 0 ∧ p.1 ≠ 0 then 3 else p.2)
def ledger_may.l0 : Nat → List S39 → List S37 → Int → Option Int
  | 0, _, _, _ => none
  | k + 1, l1, l2, i => if i < (l2.length : Int) then (if 0 ≤ i then (if (rd_T37 l2 i).f0 ≤ 9223372036854775807 then (if 0 ≤ (rd_T37 l2 i).f0 ∧ (rd_T37 l2 i).f0 ≤ 3 * (l1.length : Int) then (if (rd_T37 l2 i).f1 = 0 then some 3 else ledger_may.l0 k l1 l2 (wrap64 (i + 1))) else some 4) else none) else none) else ledger_may.fin k l2
def ledger_may.f (k : Nat) (a0 : Int) (l1 : List S39) (l2 : List S37) : Option Int := if l1.length < 1000000 then ledger_may.l0 k l1 l2 0 else none
theorem ledger_may.mono_f (k : Nat) (l2 : List S37) : LeO (ledger_may.fin k l2) (ledger_may.fin (k + 1) l2) := by
      unfold ledger_may.fin
      repeat' first
      | (with_reducible exact ledger_amounts.mono _ _ _ _)
      | (with_reducible exact money_Add.mono _ _)
      | (with_reducible exact LeO.refl _)
      | (with_reducible exact LeO.none _)
      | (with_reducible refine LeO.ite ?_ ?_)
      | (with_reducible refine LeO.bind ?_ (fun _ => ?_))
      | exact LeO.none _
      | refine LeO.ite ?_ ?_
      | exact LeO.refl _
theorem ledger_may.mono_l : ∀ k y0 y1 y2, LeO (ledger_may.l0 k y0 y1 y2) (ledger_may.l0 (k + 1) y0 y1 y2)
  | 0 => fun _ _ _ r h => by simp [ledger_may.l0] at h
  | k + 1 => by
    have ih := ledger_may.mono_l k
    · intro y0 y1 y2
      unfold ledger_may.l0
      repeat' first
      | (with_reducible exact ih _ _ _)
      | (with_reducible exact ledger_may.mono_f _ _)
      | (with_reducible exact LeO.refl _)
      | (with_reducible exact LeO.none _)
      | (with_reducible refine LeO.ite ?_ ?_)
      | (with_reducible refine LeO.bind ?_ (fun _ => ?_))
      | exact LeO.none _
      | refine LeO.ite ?_ ?_
      | exact LeO.refl _
theorem ledger_may.mono : ∀ a0 a1 a2 k, LeO (ledger_may.f k a0 a1 a2) (ledger_may.f (k + 1) a0 a1 a2) := by
  intro a0 a1 a2 k
  unfold ledger_may.f
  repeat' first
      | (with_reducible exact ledger_may.mono_l _ _ _ _)
      | (with_reducible exact LeO.refl _)
      | (with_reducible exact LeO.none _)
      | (with_reducible refine LeO.ite ?_ ?_)
      | (with_reducible refine LeO.bind ?_ (fun _ => ?_))
      | exact LeO.none _
      | refine LeO.ite ?_ ?_
      | exact LeO.refl _
set_option maxHeartbeats 8000000 in
set_option maxRecDepth 100000 in
theorem ledger_may.calls (k : Nat) (a0 : Int) (A1 : Option Addr) (c1 : Nat) (l1 : List S39) (A2 : Option Addr) (c2 : Nat) (l2 : List S37) (r : Int) (w : World) (hr1 : Kd.C k39 w A1 l1.length l1) (hc1 : l1.length ≤ c1) (hr2 : Kd.C k37 w A2 l2.length l2) (hc2 : l2.length ≤ c2) (h : ledger_may.f k a0 l1 l2 = some r) :
    Calls Try.prog 18 #[.int .i64 a0, .slice A1 l1.length c1, .slice A2 l2.length c2] w fun e w' => e = .returned (.int .i64 r) ∧ Below w.heap.size w w' := by
  have hu37 := Try.underlying37
  have HR1 := Aside0.mk hr1
  have HR2 := Aside0.mk hr2
  have HC2 := Aside0.mk hc2
  have HA : Aside0 (0 < l1.length → ∃ ad, A1 = some ad) := ⟨fun hp => by obtain ⟨ad, e, _⟩ := at_T39 hr1 0 (by omega) (by omega); exact ⟨ad, e⟩⟩
  have HB := Aside0.mk (below_alloc (Below.refl w.heap.size w) (.cells #[.int .i64 a0] 3 (0, 0)))
  unfold ledger_may.f at h
  by_cases c0 : l1.length < 1000000
  · rw [if_pos c0] at h
    have H' := Aside0.mk h
    have HN := Aside0.mk c0
    clear h hr1 hc1 hr2 hc2 c0
    go_enter Try.func18, Try.ntmps18
    go_wp2
    go_loopg [13] k (fun kq v13 wc => ∃ x13 : Int, v13 = .int .i64 x13 ∧ Aside0 (ledger_may.l0 kq l1 l2 x13 = some r) ∧ Aside0 (Below w.heap.size w wc))
    case atStart => exact ⟨0, rfl, H', HB⟩
    case round =>
      clear H' HB
      obtain ⟨x13, rfl, HH, HB⟩ := hrel
      cases gk with
      | zero => exact absurd HH.out (by simp [ledger_may.l0])
      | succ k1 =>
        have H := HH.out
        clear HH
        simp only [ledger_may.l0] at H
        by_cases c3 : x13 < (l2.length : Int)
        · rw [if_pos c3] at H
          have q154 := c3
          have c3b0 : decide (x13 < (l2.length : Int)) = true := decide_eq_true c3
          clear c3
          by_cases c4 : 0 ≤ x13
          · rw [if_pos c4] at H
            have p154 := c4
            have c4b0 : decide (0 ≤ x13) = true := decide_eq_true c4
            clear c4
            obtain ⟨ad154, e154, hx154_0, hx154_1⟩ := at_T37 HR2.out x13 p154 q154
            cases e154
            replace hx154_0 := (HB.out.cell (World.block_lt_of_cell? w _ hx154_0)).trans hx154_0
            replace hx154_1 := (HB.out.cell (World.block_lt_of_cell? w _ hx154_1)).trans hx154_1
            replace p154 := eq_true p154
            replace q154 := eq_true q154
            by_cases c5 : (rd_T37 l2 x13).f0 ≤ 9223372036854775807
            · rw [if_pos c5] at H
              have c5b := Aside0.mk c5
              clear c5
              by_cases c6 : 0 ≤ (rd_T37 l2 x13).f0 ∧ (rd_T37 l2 x13).f0 ≤ 3 * (l1.length : Int)
              · rw [if_pos c6] at H
                have c6b := Aside0.mk c6
                clear c6
                by_cases c7 : (rd_T37 l2 x13).f1 = 0
                · rw [if_pos c7] at H
                  obtain rfl := Option.some.inj H
                  have c7b : ((rd_T37 l2 x13).f1 == 0) = true := beq_iff_eq.mpr c7
                  clear c7 H
                  obtain ⟨q2, HQ⟩ : ∃ q2 : World → Addr, Aside0 (∀ W, Calls Try.prog 22 #[.pointer (some ⟨w.heap.size, 0, none⟩), .slice A1 l1.length c1, .int .i64 (rd_T37 l2 x13).f0] W fun e w' => e = .returned (.pointer (some (q2 W))) ∧ Below W.heap.size W w') := ⟨fun W => Classical.choose (place_yes ⟨w.heap.size, 0, none⟩ A1 l1.length c1 (rd_T37 l2 x13).f0 W c6b.out HN.out HA.out), ⟨fun W => Classical.choose_spec (place_yes ⟨w.heap.size, 0, none⟩ A1 l1.length c1 (rd_T37 l2 x13).f0 W c6b.out HN.out HA.out)⟩⟩
                  go_wp2_with (first | ((with_reducible refine gate_dst (N := 8) rfl ?_); refine box_event ?hg (N := 8) ?hd (cs := #[.int .i64 0, .int .i64 0]) (t := 37) ?hr ?_; (case hd => rfl); (case hg => rfl); (case hr => first | (go_simp; done) | (go_simp; rfl)); intro gb155 hg w7 hbox hb; have n0_ := Aside0.mk (below_step (by repeat (first | (with_reducible first | exact HB.out | apply below_alloc | apply pw_below_drewN | apply below_drew1) | exact HB.out)) hb); have n1_ := Aside0.mk (hbox); have n2_ := Aside0.mk ((by rw [hg]; exact (below_size (by repeat (first | (with_reducible first | exact HB.out | apply below_alloc | apply pw_below_drewN | apply below_drew1) | exact HB.out)))) : w.heap.size ≤ gb155); clear HB; have HB := n0_; have BK155 := n1_; have GE155 := n2_; clear n0_ n1_ n2_; clear hb hbox hg; have hcz13_0 : w7.cell? ⟨gb155, 0, none⟩ = some (.int .i64 0) := (blk_cell BK155.out 0).trans rfl; have hcz13_1 : w7.cell? ⟨gb155, 1, none⟩ = some (.int .i64 0) := (blk_cell BK155.out 1).trans rfl; have hfz13_0 := blk_frozen BK155.out 0; have hfz13_1 := blk_frozen BK155.out 1) | (go_at_call 22; with_reducible refine (HQ.out _).mono ?_; rintro e w14 ⟨rfl, hb⟩; have n0_ := Aside0.mk (blk_below (g := gb155) (o := .cells #[.int .i64 ((rd_T37 l2 x13).f0), .int .i64 ((rd_T37 l2 x13).f1)] 37 (0, 0)) (by (with_reducible repeat (first | refine blk_drewN ?_ _ | refine blk_drew ?_ | refine blk_alloc ?_ _)); refine blk_put (cs := #[.int .i64 ((rd_T37 l2 x13).f0), .int .i64 0]) ?_ 1 _ rfl; (with_reducible repeat (first | refine blk_drewN ?_ _ | refine blk_drew ?_ | refine blk_alloc ?_ _)); refine blk_put (cs := #[.int .i64 0, .int .i64 0]) ?_ 0 _ rfl; (with_reducible repeat (first | refine blk_drewN ?_ _ | refine blk_drew ?_ | refine blk_alloc ?_ _)); exact BK155.out) hb); have n1_ := Aside0.mk (below_step (by repeat (first | (with_reducible first | exact HB.out | apply below_alloc | apply pw_below_drewN | apply below_drew1 | refine below_set ?_ GE155.out) | exact HB.out)) hb); clear BK155; clear HB; have BK155 := n0_; have HB := n1_; clear n0_ n1_; (try clear hb); have hcz15_0 : w14.cell? ⟨gb155, 0, none⟩ = some (.int .i64 ((rd_T37 l2 x13).f0)) := (blk_cell BK155.out 0).trans rfl; have hcz15_1 : w14.cell? ⟨gb155, 1, none⟩ = some (.int .i64 ((rd_T37 l2 x13).f1)) := (blk_cell BK155.out 1).trans rfl))
                  go_ret
                  exact ⟨rfl, by repeat (first | (with_reducible first | exact HB.out | apply below_alloc | apply pw_below_drewN | apply below_drew1 | refine below_set ?_ GE155.out) | exact HB.out)⟩
                · rw [if_neg c7] at H
                  have c7b : ((rd_T37 l2 x13).f1 == 0) = false := beq_eq_false_iff_ne.mpr c7
                  have H' := Aside0.mk H
                  clear c7 H
                  obtain ⟨q2, HQ⟩ : ∃ q2 : World → Addr, Aside0 (∀ W, Calls Try.prog 22 #[.pointer (some ⟨w.heap.size, 0, none⟩), .slice A1 l1.length c1, .int .i64 (rd_T37 l2 x13).f0] W fun e w' => e = .returned (.pointer (some (q2 W))) ∧ Below W.heap.size W w') := ⟨fun W => Classical.choose (place_yes ⟨w.heap.size, 0, none⟩ A1 l1.length c1 (rd_T37 l2 x13).f0 W c6b.out HN.out HA.out), ⟨fun W => Classical.choose_spec (place_yes ⟨w.heap.size, 0, none⟩ A1 l1.length c1 (rd_T37 l2 x13).f0 W c6b.out HN.out HA.out)⟩⟩
                  go_wp2_with (first | ((with_reducible refine gate_dst (N := 8) rfl ?_); refine box_event ?hg (N := 8) ?hd (cs := #[.int .i64 0, .int .i64 0]) (t := 37) ?hr ?_; (case hd => rfl); (case hg => rfl); (case hr => first | (go_simp; done) | (go_simp; rfl)); intro gb155 hg w7 hbox hb; have n0_ := Aside0.mk (below_step (by repeat (first | (with_reducible first | exact HB.out | apply below_alloc | apply pw_below_drewN | apply below_drew1) | exact HB.out)) hb); have n1_ := Aside0.mk (hbox); have n2_ := Aside0.mk ((by rw [hg]; exact (below_size (by repeat (first | (with_reducible first | exact HB.out | apply below_alloc | apply pw_below_drewN | apply below_drew1) | exact HB.out)))) : w.heap.size ≤ gb155); clear HB; have HB := n0_; have BK155 := n1_; have GE155 := n2_; clear n0_ n1_ n2_; clear hb hbox hg; have hcz13_0 : w7.cell? ⟨gb155, 0, none⟩ = some (.int .i64 0) := (blk_cell BK155.out 0).trans rfl; have hcz13_1 : w7.cell? ⟨gb155, 1, none⟩ = some (.int .i64 0) := (blk_cell BK155.out 1).trans rfl; have hfz13_0 := blk_frozen BK155.out 0; have hfz13_1 := blk_frozen BK155.out 1) | (go_at_call 22; with_reducible refine (HQ.out _).mono ?_; rintro e w14 ⟨rfl, hb⟩; have n0_ := Aside0.mk (blk_below (g := gb155) (o := .cells #[.int .i64 ((rd_T37 l2 x13).f0), .int .i64 ((rd_T37 l2 x13).f1)] 37 (0, 0)) (by (with_reducible repeat (first | refine blk_drewN ?_ _ | refine blk_drew ?_ | refine blk_alloc ?_ _)); refine blk_put (cs := #[.int .i64 ((rd_T37 l2 x13).f0), .int .i64 0]) ?_ 1 _ rfl; (with_reducible repeat (first | refine blk_drewN ?_ _ | refine blk_drew ?_ | refine blk_alloc ?_ _)); refine blk_put (cs := #[.int .i64 0, .int .i64 0]) ?_ 0 _ rfl; (with_reducible repeat (first | refine blk_drewN ?_ _ | refine blk_drew ?_ | refine blk_alloc ?_ _)); exact BK155.out) hb); have n1_ := Aside0.mk (below_step (by repeat (first | (with_reducible first | exact HB.out | apply below_alloc | apply pw_below_drewN | apply below_drew1 | refine below_set ?_ GE155.out) | exact HB.out)) hb); clear BK155; clear HB; have BK155 := n0_; have HB := n1_; clear n0_ n1_; (try clear hb); have hcz15_0 : w14.cell? ⟨gb155, 0, none⟩ = some (.int .i64 ((rd_T37 l2 x13).f0)) := (blk_cell BK155.out 0).trans rfl; have hcz15_1 : w14.cell? ⟨gb155, 1, none⟩ = some (.int .i64 ((rd_T37 l2 x13).f1)) := (blk_cell BK155.out 1).trans rfl))
                  go_roundg k1
                  case measure => omega
                  case rel => exact ⟨wrap64 (x13 + 1), (by first | rfl | (simp; done)), H', ⟨by repeat (first | (with_reducible first | exact HB.out | apply below_alloc | apply pw_below_drewN | apply below_drew1 | refine below_set ?_ GE155.out) | exact HB.out)⟩⟩
              · rw [if_neg c6] at H
                obtain rfl := Option.some.inj H
                have c6b := Aside0.mk c6
                clear c6 H
                go_wp2_with (first | ((with_reducible refine gate_dst (N := 8) rfl ?_); refine box_event ?hg (N := 8) ?hd (cs := #[.int .i64 0, .int .i64 0]) (t := 37) ?hr ?_; (case hd => rfl); (case hg => rfl); (case hr => first | (go_simp; done) | (go_simp; rfl)); intro gb155 hg w7 hbox hb; have n0_ := Aside0.mk (below_step (by repeat (first | (with_reducible first | exact HB.out | apply below_alloc | apply pw_below_drewN | apply below_drew1) | exact HB.out)) hb); have n1_ := Aside0.mk (hbox); have n2_ := Aside0.mk ((by rw [hg]; exact (below_size (by repeat (first | (with_reducible first | exact HB.out | apply below_alloc | apply pw_below_drewN | apply below_drew1) | exact HB.out)))) : w.heap.size ≤ gb155); clear HB; have HB := n0_; have BK155 := n1_; have GE155 := n2_; clear n0_ n1_ n2_; clear hb hbox hg; have hcz13_0 : w7.cell? ⟨gb155, 0, none⟩ = some (.int .i64 0) := (blk_cell BK155.out 0).trans rfl; have hcz13_1 : w7.cell? ⟨gb155, 1, none⟩ = some (.int .i64 0) := (blk_cell BK155.out 1).trans rfl; have hfz13_0 := blk_frozen BK155.out 0; have hfz13_1 := blk_frozen BK155.out 1) | (go_at_call 22; with_reducible refine (place_no _ A1 l1.length c1 (rd_T37 l2 x13).f0 _ c6b.out c5b.out).mono ?_; rintro e w14 ⟨rfl, hb⟩; have n0_ := Aside0.mk (blk_below (g := gb155) (o := .cells #[.int .i64 ((rd_T37 l2 x13).f0), .int .i64 ((rd_T37 l2 x13).f1)] 37 (0, 0)) (by (with_reducible repeat (first | refine blk_drewN ?_ _ | refine blk_drew ?_ | refine blk_alloc ?_ _)); refine blk_put (cs := #[.int .i64 ((rd_T37 l2 x13).f0), .int .i64 0]) ?_ 1 _ rfl; (with_reducible repeat (first | refine blk_drewN ?_ _ | refine blk_drew ?_ | refine blk_alloc ?_ _)); refine blk_put (cs := #[.int .i64 0, .int .i64 0]) ?_ 0 _ rfl; (with_reducible repeat (first | refine blk_drewN ?_ _ | refine blk_drew ?_ | refine blk_alloc ?_ _)); exact BK155.out) hb); have n1_ := Aside0.mk (below_step (by repeat (first | (with_reducible first | exact HB.out | apply below_alloc | apply pw_below_drewN | apply below_drew1 | refine below_set ?_ GE155.out) | exact HB.out)) hb); clear BK155; clear HB; have BK155 := n0_; have HB := n1_; clear n0_ n1_; (try clear hb); have hcz15_0 : w14.cell? ⟨gb155, 0, none⟩ = some (.int .i64 ((rd_T37 l2 x13).f0)) := (blk_cell BK155.out 0).trans rfl; have hcz15_1 : w14.cell? ⟨gb155, 1, none⟩ = some (.int .i64 ((rd_T37 l2 x13).f1)) := (blk_cell BK155.out 1).trans rfl))
                go_ret
                exact ⟨rfl, by repeat (first | (with_reducible first | exact HB.out | apply below_alloc | apply pw_below_drewN | apply below_drew1 | refine below_set ?_ GE155.out) | exact HB.out)⟩
            · rw [if_neg c5] at H; simp at H
          · rw [if_neg c4] at H; simp at H
        · rw [if_neg c3] at H
          have c3b0 : decide (x13 < (l2.length : Int)) = false := decide_eq_false c3
          clear c3
          unfold ledger_may.fin at H
          by_cases c5 : l2.length = 0 ∨ 64 < l2.length
          · rw [if_pos c5] at H
            obtain rfl := Option.some.inj H
            clear H
            by_cases c6 : l2.length = 0
            · have c6b : ((l2.length : Int) == 0) = true := beq_iff_eq.mpr (by omega)
              have c6c : (l2.length == 0) = true := beq_iff_eq.mpr c6
              clear c6 c5
              go_wp2
              go_ret
              exact ⟨rfl, HB.out⟩
            · have c6b : ((l2.length : Int) == 0) = false := beq_eq_false_iff_ne.mpr (by omega)
              have c6c : (l2.length == 0) = false := beq_eq_false_iff_ne.mpr c6
              have c7 : decide (64 < (l2.length : Int)) = true := decide_eq_true (by omega)
              have c8 : decide (64 < l2.length) = true := decide_eq_true (by omega)
              have c9 : ¬ l2 = [] := fun e => c6 (by rw [e]; rfl)
              clear c6 c5
              go_wp2
              go_ret
              exact ⟨rfl, HB.out⟩
          · rw [if_neg c5] at H
            have c6b : ((l2.length : Int) == 0) = false := beq_eq_false_iff_ne.mpr (by omega)
            have c6c : (l2.length == 0) = false := beq_eq_false_iff_ne.mpr (by omega)
            have c7 : decide (64 < (l2.length : Int)) = false := decide_eq_false (by omega)
            have c8 : decide (64 < l2.length) = false := decide_eq_false (by omega)
            have c9 : ¬ l2 = [] := fun e => c5 (Or.inl (by rw [e]; rfl))
            clear c5
            obtain ⟨t, ht, H⟩ := Option.bind_eq_some_iff.1 H
            obtain ⟨⟨s, er⟩, hs, H⟩ := Option.bind_eq_some_iff.1 H
            have HT := Aside0.mk ht
            have HS := Aside0.mk hs
            replace H := Option.some.inj H
            clear ht hs
            by_cases d1 : er = 0
            · have d1b : (er == 0) = true := beq_iff_eq.mpr d1
              by_cases d2 : s = 0
              · have d2b : (s != 0) = false := by simp [d2]
                have hrr : r = 0 := by simp [d1, d2] at H; omega
                subst d1
                subst hrr
                clear H d2
                go_wp2_with (first | (go_at_call 21; with_reducible refine (ledger_amounts.calls k1 _ c2 l2 true 0 t _ (Kd.C_below HR2.out HB.out) HC2.out HT.out).mono ?_; rintro e w1 ⟨v, rfl, ho, hb⟩; obtain ⟨A3, c3, rfl, hcc, hC⟩ := Kd.R_reads ho; have HC3 := Aside0.mk hC; have HCC := Aside0.mk hcc; have HB2 := Aside0.mk (HB.out.trans (hb.mono HB.out.size)); clear ho hb hcc hC) | (go_at_call 23; with_reducible refine (money_Add.calls k1 _ _ t s _ _ HC3.out HCC.out HS.out).mono ?_; rintro e w2 ⟨rfl, hd⟩; replace HB2 := Aside0.mk (HB2.out.trans (hd.below.mono HB2.out.size)); clear hd))
                go_ret
                exact ⟨rfl, HB2.out⟩
              · have d2b : (s != 0) = true := by simp [d2]
                have hrr : r = 3 := by simp [d1, d2] at H; omega
                subst hrr
                clear H d2 d1
                go_wp2_with (first | (go_at_call 21; with_reducible refine (ledger_amounts.calls k1 _ c2 l2 true 0 t _ (Kd.C_below HR2.out HB.out) HC2.out HT.out).mono ?_; rintro e w1 ⟨v, rfl, ho, hb⟩; obtain ⟨A3, c3, rfl, hcc, hC⟩ := Kd.R_reads ho; have HC3 := Aside0.mk hC; have HCC := Aside0.mk hcc; have HB2 := Aside0.mk (HB.out.trans (hb.mono HB.out.size)); clear ho hb hcc hC) | (go_at_call 23; with_reducible refine (money_Add.calls k1 _ _ t s _ _ HC3.out HCC.out HS.out).mono ?_; rintro e w2 ⟨rfl, hd⟩; replace HB2 := Aside0.mk (HB2.out.trans (hd.below.mono HB2.out.size)); clear hd))
                go_ret
                exact ⟨rfl, HB2.out⟩
            · have d1b : (er == 0) = false := by simp [d1]
              have hrr : r = er := by simp [d1] at H; omega
              subst hrr
              clear H d1
              go_wp2_with (first | (go_at_call 21; with_reducible refine (ledger_amounts.calls k1 _ c2 l2 true 0 t _ (Kd.C_below HR2.out HB.out) HC2.out HT.out).mono ?_; rintro e w1 ⟨v, rfl, ho, hb⟩; obtain ⟨A3, c3, rfl, hcc, hC⟩ := Kd.R_reads ho; have HC3 := Aside0.mk hC; have HCC := Aside0.mk hcc; have HB2 := Aside0.mk (HB.out.trans (hb.mono HB.out.size)); clear ho hb hcc hC) | (go_at_call 23; with_reducible refine (money_Add.calls k1 _ _ t s _ _ HC3.out HCC.out HS.out).mono ?_; rintro e w2 ⟨rfl, hd⟩; replace HB2 := Aside0.mk (HB2.out.trans (hd.below.mono HB2.out.size)); clear hd))
              go_ret
              exact ⟨rfl, HB2.out⟩
  · rw [if_neg c0] at h; simp at h
end Go.Proofs.Ytkjkonkgcepanaa.PAll
