/- Words, plain functions and contracts of the functions that the law of this claim reaches; no conditions. -/
import Derived.Test.YtjmkpcnekghmhaaBEntryDecodes1
section
namespace Go.Proofs.Ytjmkpcnekghmhaa.PAll
open Go.RowKit Go.Proofs.YtjmkpcnekghmhaaW.PrintWords Go.Proofs.YtjmkpcnekghmhaaW.PrintLast Go.Proofs.YtjmkpcnekghmhaaW.PrintMore
attribute [local go_sem] max2_int min2_int max_two min_two max_three min_three max_four min_four   -- for this text's walks alone
set_option linter.unusedVariables false
set_option linter.unusedSimpArgs false

/-! ### entry_Encode: function 27 -/
mutual
def entry_Encode.j0 : Nat → Bool → Int → Int → Int → ByteArray → ByteArray → List Int → List (S87) → Option (List Int × Int)
  | 0, _, _, _, _, _, _, _, _ => none
  | k + 1, x26, x149000, x149001, x149002, x149003, x149004, x149005, x149006 => if x26 = true then (some (([] : List Int), 3)) else ((entry_ints.f k ([] : List Int) (([x149000, x149001, x149002] : List Int))).bind fun t152 => ((entry_word.f t152 x149003).bind fun t155 => ((entry_word.f t155 x149004).bind fun t158 => ((entry_ints.f k t158 (([(x149005.length : Int)] : List Int))).bind fun t164 => ((entry_ints.f k t164 x149005).bind fun t167 => ((entry_ints.f k t167 (([(x149006.length : Int)] : List Int))).bind fun t173 => (entry_Encode.l0 k t173 x149006 (x149006.length : Int) 0)))))))
def entry_Encode.l0 : Nat → List Int → List (S87) → Int → Int → Option (List Int × Int)
  | 0, _, _, _, _ => none
  | k + 1, x4, x58, x59, x60 => if x60 < x59 then (if 0 ≤ x60 then (if x60 < (x58.length : Int) then ((entry_ints.f k x4 (([(rd_T87 x58 x60).f0, (rd_T87 x58 x60).f1] : List Int))).bind fun t181 => (entry_Encode.l0 k t181 x58 x59 (wrap64 (x60 + 1)))) else (none)) else (none)) else ((slices_Clip_byte.f x4).bind fun t184 => (some (t184, 0)))
end
def entry_Encode.f (k : Nat) (a0_0 : Int) (a0_1 : Int) (a0_2 : Int) (a0_3 : ByteArray) (a0_4 : ByteArray) (l0_5 : List Int) (l0_6 : List (S87)) : Option (List Int × Int) := if (mx (a0_3.size : Int) (a0_4.size : Int)) > 16 then (entry_Encode.j0 k true a0_0 a0_1 a0_2 a0_3 a0_4 l0_5 l0_6) else (if (l0_5.length : Int) > 8 then (entry_Encode.j0 k true a0_0 a0_1 a0_2 a0_3 a0_4 l0_5 l0_6) else (entry_Encode.j0 k (decide ((l0_6.length : Int) > 64)) a0_0 a0_1 a0_2 a0_3 a0_4 l0_5 l0_6))
theorem entry_Encode.mono_l : ∀ k, (∀ y0 y1 y2 y3 y4 y5 y6 y7, LeO (entry_Encode.j0 k y0 y1 y2 y3 y4 y5 y6 y7) (entry_Encode.j0 (k + 1) y0 y1 y2 y3 y4 y5 y6 y7)) ∧ (∀ y0 y1 y2 y3, LeO (entry_Encode.l0 k y0 y1 y2 y3) (entry_Encode.l0 (k + 1) y0 y1 y2 y3))
  | 0 => ⟨fun _ _ _ _ _ _ _ _ r h => by simp [entry_Encode.j0] at h, fun _ _ _ _ r h => by simp [entry_Encode.l0] at h⟩
  | k + 1 => by
    obtain ⟨ih0, ih1⟩ := entry_Encode.mono_l k
    refine ⟨?_, ?_⟩
    · intro y0 y1 y2 y3 y4 y5 y6 y7
      unfold entry_Encode.j0
      repeat' first
      | (with_reducible exact ih0 _ _ _ _ _ _ _ _)
      | (with_reducible exact ih1 _ _ _ _)
      | (with_reducible exact entry_ints.mono _ _ _)
      | (with_reducible exact LeO.refl _)
      | (with_reducible exact LeO.none _)
      | (with_reducible refine LeO.ite ?_ ?_)
      | (with_reducible refine LeO.bind ?_ (fun _ => ?_))
      | exact ih0 _ _ _ _ _ _ _ _
      | exact ih1 _ _ _ _
      | exact entry_ints.mono _ _ _
      | exact LeO.none _
      | refine LeO.ite ?_ ?_
      | refine LeO.bind ?_ (fun _ => ?_)
    · intro y0 y1 y2 y3
      unfold entry_Encode.l0
      repeat' first
      | (with_reducible exact ih0 _ _ _ _ _ _ _ _)
      | (with_reducible exact ih1 _ _ _ _)
      | (with_reducible exact entry_ints.mono _ _ _)
      | (with_reducible exact LeO.refl _)
      | (with_reducible exact LeO.none _)
      | (with_reducible refine LeO.ite ?_ ?_)
      | (with_reducible refine LeO.bind ?_ (fun _ => ?_))
      | exact ih0 _ _ _ _ _ _ _ _
      | exact ih1 _ _ _ _
      | exact entry_ints.mono _ _ _
      | exact LeO.none _
      | refine LeO.ite ?_ ?_
      | refine LeO.bind ?_ (fun _ => ?_)
theorem entry_Encode.mono : ∀ a0 a1 a2 a3 a4 a5 a6 k, LeO (entry_Encode.f k a0 a1 a2 a3 a4 a5 a6) (entry_Encode.f (k + 1) a0 a1 a2 a3 a4 a5 a6) := by
  intro a0 a1 a2 a3 a4 a5 a6 k
  obtain ⟨ih0, ih1⟩ := entry_Encode.mono_l k
  unfold entry_Encode.f
  repeat' first
      | (with_reducible exact ih0 _ _ _ _ _ _ _ _)
      | (with_reducible exact ih1 _ _ _ _)
      | (with_reducible exact entry_ints.mono _ _ _)
      | (with_reducible exact LeO.refl _)
      | (with_reducible exact LeO.none _)
      | (with_reducible refine LeO.ite ?_ ?_)
      | (with_reducible refine LeO.bind ?_ (fun _ => ?_))
      | exact ih0 _ _ _ _ _ _ _ _
      | exact ih1 _ _ _ _
      | exact entry_ints.mono _ _ _
      | exact LeO.none _
      | refine LeO.ite ?_ ?_
      | refine LeO.bind ?_ (fun _ => ?_)
def entry_Encode.T4 : Bool × List (List Nat × List Nat) := (true, [([], []), ([], []), ([1], [1]), ([0, 2], [0, 2]), ([], []), ([4], [4]), ([3, 5, 3], [3, 5]), ([6, 6, 0, 1, 2, 3, 4, 5, 6], [0, 6])])
def entry_Encode.B4 : List Nat := [0, 0, 2, 7, 0, 16, 63, 127]
theorem entry_Encode.tab4 : rtab .any (opsOf Try.f27 4) = entry_Encode.T4 := by kernel_rfl
theorem entry_Encode.bits4 : waitsOk entry_Encode.T4.2 entry_Encode.B4 = true := by kernel_rfl
def entry_Encode.T5 : Bool × List (List Nat × List Nat) := (true, [([], []), ([], []), ([1], [1]), ([2], [2]), ([3], [3]), ([0, 4], [0, 4]), ([], []), ([6], [6]), ([5, 7, 5], [5, 7]), ([8, 8, 0, 1, 2, 3, 4, 5, 6, 7, 8], [0, 8])])
def entry_Encode.B5 : List Nat := [0, 0, 2, 6, 14, 31, 0, 64, 255, 511]
theorem entry_Encode.tab5 : rtab .any (opsOf Try.f27 5) = entry_Encode.T5 := by kernel_rfl
theorem entry_Encode.bits5 : waitsOk entry_Encode.T5.2 entry_Encode.B5 = true := by kernel_rfl
set_option maxHeartbeats 8000000 in
set_option maxRecDepth 100000 in
theorem entry_Encode.calls (k : Nat) (a0_0 : Int) (a0_1 : Int) (a0_2 : Int) (a0_3 : ByteArray) (a0_4 : ByteArray) (A0_5 : Option Addr) (c0_5 : Nat) (l0_5 : List Int) (A0_6 : Option Addr) (c0_6 : Nat) (l0_6 : List (S87)) (r1 : List Int) (r2 : Int) (w : World) (hr0_5 : Kd.C (Kd.int .i64) w A0_5 l0_5.length l0_5) (hc0_5 : l0_5.length ≤ c0_5) (hr0_6 : Kd.C k87 w A0_6 l0_6.length l0_6) (hc0_6 : l0_6.length ≤ c0_6) (h : entry_Encode.f k a0_0 a0_1 a0_2 a0_3 a0_4 l0_5 l0_6 = some (r1, r2)) :
    Calls Try.prog 27 #[.agg #[.int .i64 a0_0, .int .i64 a0_1, .int .i64 a0_2, .string a0_3, .string a0_4, .slice A0_5 l0_5.length c0_5, .slice A0_6 l0_6.length c0_6]] w fun e w' => ∃ v0_ : Value, e = .returned (.tuple #[v0_, .int .i64 r2]) ∧ Kd.V (Kd.int .u8) 5 w' w.heap.size (fun k_ => (w.heap.size ≤ k_)) v0_ r1 ∧ Below w.heap.size w w' := by
  have hu50 := Try.underlying50
  have hu87 := Try.underlying87
  have HR0_5 := Aside0.mk hr0_5
  have HC0_5 := Aside0.mk hc0_5
  clear hr0_5 hc0_5
  have HR0_6 := Aside0.mk hr0_6
  have HC0_6 := Aside0.mk hc0_6
  clear hr0_6 hc0_6
  have HB := Aside0.mk (Below.refl w.heap.size w)
  have H : (if (mx (a0_3.size : Int) (a0_4.size : Int)) > 16 then (entry_Encode.j0 k true a0_0 a0_1 a0_2 a0_3 a0_4 l0_5 l0_6) else (if (l0_5.length : Int) > 8 then (entry_Encode.j0 k true a0_0 a0_1 a0_2 a0_3 a0_4 l0_5 l0_6) else (entry_Encode.j0 k (decide ((l0_6.length : Int) > 64)) a0_0 a0_1 a0_2 a0_3 a0_4 l0_5 l0_6))) = some (r1, r2) := h
  clear h
  have HC2 := Aside0.mk H
  clear H
  go_enter Try.func27, Try.ntmps27
  go_upto_region 1 with (first | ((with_reducible refine gate_dst (N := 1) rfl ?_); (try (refine gate_guard (by rfl) ?_; dsimp only)); refine box_event ?hg (N := 1) ?hd (cs := #[.int .i64 a0_0, .int .i64 a0_1, .int .i64 a0_2, .string a0_3, .string a0_4, .slice A0_5 l0_5.length c0_5, .slice A0_6 l0_6.length c0_6]) (t := 50) ?hr ?_; (case hd => rfl); (case hg => rfl); (case hr => first | (go_simp; done) | (go_simp; rfl)); intro gb148 hg w3 hbox hb; have n0_ := Aside0.mk (below_step (by repeat (first | (with_reducible first | exact HB.out | apply below_alloc | apply pw_below_drewN | apply below_drew1) | exact HB.out)) hb); have n1_ := Aside0.mk (hbox); have n2_ := Aside0.mk ((by rw [hg]; exact (below_size (by repeat (first | (with_reducible first | exact HB.out | apply below_alloc | apply pw_below_drewN | apply below_drew1) | exact HB.out))) : w.heap.size ≤ gb148)); have n3_ := Aside0.mk ((by rw [hg]; exact (below_size (by repeat (first | (with_reducible first | exact HB.out | apply below_alloc | apply pw_below_drewN | apply below_drew1) | exact HB.out))) : w.heap.size ≤ gb148)); clear HB; have HB := n0_; have BK148 := n1_; have GW148 := n2_; have GE148 := n3_; clear n0_ n1_ n2_ n3_; clear hb hbox hg))
  (try simp only [Act.put, List.setIfInBounds_toArray, List.set_cons_zero, List.set_cons_succ])
  go_cut [26] (fun v26 wc => ∃ (kq : Nat) (x26_1 : Bool), v26 = .bool x26_1 ∧ Aside0 (entry_Encode.j0 kq x26_1 a0_0 a0_1 a0_2 a0_3 a0_4 l0_5 l0_6 = some (r1, r2)) ∧ Aside0 (kq ≤ k) ∧ Aside0 (wc.heap[gb148]? = some (.cells #[.int .i64 a0_0, .int .i64 a0_1, .int .i64 a0_2, .string a0_3, .string a0_4, (.slice A0_5 l0_5.length c0_5), (.slice A0_6 l0_6.length c0_6)] 50 (0, 0))) ∧ Aside0 (Below w.heap.size w wc))
  case first =>
    have H := HC2.out
    clear HC2
    obtain ⟨ji4, hji4⟩ : ∃ j_ : Int, (mx (a0_3.size : Int) (a0_4.size : Int)) = j_ := ⟨_, rfl⟩
    replace H : (if (ji4) > 16 then (entry_Encode.j0 k true a0_0 a0_1 a0_2 a0_3 a0_4 l0_5 l0_6) else (if (l0_5.length : Int) > 8 then (entry_Encode.j0 k true a0_0 a0_1 a0_2 a0_3 a0_4 l0_5 l0_6) else (entry_Encode.j0 k (decide ((l0_6.length : Int) > 64)) a0_0 a0_1 a0_2 a0_3 a0_4 l0_5 l0_6))) = some (r1, r2) := by first | (rw [hji4] at H; exact H) | (simp only [hji4] at H ⊢; exact H)
    (try (have hji4l : 0 ≤ ji4 := by (rw [← hji4]; unfold mx; (repeat' split) <;> omega)))
    (try (have hji4m : 0 ≤ ji4 := by omega))
    have hji4_ : (if (a0_3.size : Int) < (a0_4.size : Int) then (a0_4.size : Int) else (a0_3.size : Int)) = ji4 := hji4
    by_cases hm_ : (a0_3.size : Int) < (a0_4.size : Int)
    · have hmd_ : decide ((a0_3.size : Int) < (a0_4.size : Int)) = true := decide_eq_true hm_
      have hmn_ : decide (a0_3.size < a0_4.size) = true := decide_eq_true (by omega)
      have hmt_ := eq_true hm_
      have hmu_ : (a0_3.size < a0_4.size) = True := eq_true (by omega)
      rw [if_pos hm_] at hji4_
      by_cases c5 : (ji4) > 16
      · rw [if_pos c5] at H
        have c5b0 : decide (16 < (ji4)) = true := decide_eq_true c5
        have c5z0 := c5b0
        rw [← hji4_] at c5b0
        have c5n0 : decide (16 < a0_4.size) = true := by (have q_ := of_decide_eq_true c5b0); exact decide_eq_true (by omega)
        clear c5
        (first | rw [c5b0] | (simp only [i64_w, i32_w]; rw [c5b0]) | skip)
        have H' := Aside0.mk H
        clear H
        have hcz6_0 : w3.cell? ⟨gb148, 0, none⟩ = some (.int .i64 a0_0) := (blk_cell BK148.out 0).trans rfl
        have hcz6_1 : w3.cell? ⟨gb148, 1, none⟩ = some (.int .i64 a0_1) := (blk_cell BK148.out 1).trans rfl
        have hcz6_2 : w3.cell? ⟨gb148, 2, none⟩ = some (.int .i64 a0_2) := (blk_cell BK148.out 2).trans rfl
        have hcz6_3 : w3.cell? ⟨gb148, 3, none⟩ = some (.string a0_3) := (blk_cell BK148.out 3).trans rfl
        have hcz6_4 : w3.cell? ⟨gb148, 4, none⟩ = some (.string a0_4) := (blk_cell BK148.out 4).trans rfl
        have hcz6_5 : w3.cell? ⟨gb148, 5, none⟩ = some (.slice A0_5 l0_5.length c0_5) := (blk_cell BK148.out 5).trans rfl
        have hcz6_6 : w3.cell? ⟨gb148, 6, none⟩ = some (.slice A0_6 l0_6.length c0_6) := (blk_cell BK148.out 6).trans rfl
        have hfz6_0 := blk_frozen BK148.out 0
        have hfz6_1 := blk_frozen BK148.out 1
        have hfz6_2 := blk_frozen BK148.out 2
        have hfz6_3 := blk_frozen BK148.out 3
        have hfz6_4 := blk_frozen BK148.out 4
        have hfz6_5 := blk_frozen BK148.out 5
        have hfz6_6 := blk_frozen BK148.out 6
        go_wp2
        go_meet
        case rel => exact ⟨_, (true), (by first | rfl | (simp; done) | (simp [*]; done)), H', ⟨by first | omega | exact Nat.le_refl _⟩, ⟨by (with_reducible repeat (first | refine blk_drewN ?_ _ | refine blk_drew ?_ | refine blk_alloc ?_ _)); exact BK148.out⟩, ⟨by repeat (first | (with_reducible first | exact HB.out | apply below_alloc | apply pw_below_drewN | apply below_drew1 | refine below_set ?_ GE148.out) | exact HB.out)⟩⟩
      · rw [if_neg c5] at H
        have c5b0 : decide (16 < (ji4)) = false := decide_eq_false c5
        have c5z0 := c5b0
        rw [← hji4_] at c5b0
        have c5n0 : decide (16 < a0_4.size) = false := by (have q_ := of_decide_eq_false c5b0); exact decide_eq_false (by omega)
        clear c5
        (first | rw [c5b0] | (simp only [i64_w, i32_w]; rw [c5b0]) | skip)
        by_cases c7 : (l0_5.length : Int) > 8
        · rw [if_pos c7] at H
          have c7b0 : decide (8 < (l0_5.length : Int)) = true := decide_eq_true c7
          have c7b1 : decide (8 < l0_5.length) = true := decide_eq_true (by omega)
          clear c7
          have H' := Aside0.mk H
          clear H
          have hcz8_0 : w3.cell? ⟨gb148, 0, none⟩ = some (.int .i64 a0_0) := (blk_cell BK148.out 0).trans rfl
          have hcz8_1 : w3.cell? ⟨gb148, 1, none⟩ = some (.int .i64 a0_1) := (blk_cell BK148.out 1).trans rfl
          have hcz8_2 : w3.cell? ⟨gb148, 2, none⟩ = some (.int .i64 a0_2) := (blk_cell BK148.out 2).trans rfl
          have hcz8_3 : w3.cell? ⟨gb148, 3, none⟩ = some (.string a0_3) := (blk_cell BK148.out 3).trans rfl
          have hcz8_4 : w3.cell? ⟨gb148, 4, none⟩ = some (.string a0_4) := (blk_cell BK148.out 4).trans rfl
          have hcz8_5 : w3.cell? ⟨gb148, 5, none⟩ = some (.slice A0_5 l0_5.length c0_5) := (blk_cell BK148.out 5).trans rfl
          have hcz8_6 : w3.cell? ⟨gb148, 6, none⟩ = some (.slice A0_6 l0_6.length c0_6) := (blk_cell BK148.out 6).trans rfl
          have hfz8_0 := blk_frozen BK148.out 0
          have hfz8_1 := blk_frozen BK148.out 1
          have hfz8_2 := blk_frozen BK148.out 2
          have hfz8_3 := blk_frozen BK148.out 3
          have hfz8_4 := blk_frozen BK148.out 4
          have hfz8_5 := blk_frozen BK148.out 5
          have hfz8_6 := blk_frozen BK148.out 6
          go_wp2
          go_meet
          case rel => exact ⟨_, (true), (by first | rfl | (simp; done) | (simp [*]; done)), H', ⟨by first | omega | exact Nat.le_refl _⟩, ⟨by (with_reducible repeat (first | refine blk_drewN ?_ _ | refine blk_drew ?_ | refine blk_alloc ?_ _)); exact BK148.out⟩, ⟨by repeat (first | (with_reducible first | exact HB.out | apply below_alloc | apply pw_below_drewN | apply below_drew1 | refine below_set ?_ GE148.out) | exact HB.out)⟩⟩
        · rw [if_neg c7] at H
          have c7b0 : decide (8 < (l0_5.length : Int)) = false := decide_eq_false c7
          have c7b1 : decide (8 < l0_5.length) = false := decide_eq_false (by omega)
          clear c7
          have H' := Aside0.mk H
          clear H
          have hcz9_0 : w3.cell? ⟨gb148, 0, none⟩ = some (.int .i64 a0_0) := (blk_cell BK148.out 0).trans rfl
          have hcz9_1 : w3.cell? ⟨gb148, 1, none⟩ = some (.int .i64 a0_1) := (blk_cell BK148.out 1).trans rfl
          have hcz9_2 : w3.cell? ⟨gb148, 2, none⟩ = some (.int .i64 a0_2) := (blk_cell BK148.out 2).trans rfl
          have hcz9_3 : w3.cell? ⟨gb148, 3, none⟩ = some (.string a0_3) := (blk_cell BK148.out 3).trans rfl
          have hcz9_4 : w3.cell? ⟨gb148, 4, none⟩ = some (.string a0_4) := (blk_cell BK148.out 4).trans rfl
          have hcz9_5 : w3.cell? ⟨gb148, 5, none⟩ = some (.slice A0_5 l0_5.length c0_5) := (blk_cell BK148.out 5).trans rfl
          have hcz9_6 : w3.cell? ⟨gb148, 6, none⟩ = some (.slice A0_6 l0_6.length c0_6) := (blk_cell BK148.out 6).trans rfl
          have hfz9_0 := blk_frozen BK148.out 0
          have hfz9_1 := blk_frozen BK148.out 1
          have hfz9_2 := blk_frozen BK148.out 2
          have hfz9_3 := blk_frozen BK148.out 3
          have hfz9_4 := blk_frozen BK148.out 4
          have hfz9_5 := blk_frozen BK148.out 5
          have hfz9_6 := blk_frozen BK148.out 6
          go_wp2
          go_meet
          case rel => exact ⟨_, (decide ((l0_6.length : Int) > 64)), (by first | rfl | (simp; done) | (simp [*]; done)), H', ⟨by first | omega | exact Nat.le_refl _⟩, ⟨by (with_reducible repeat (first | refine blk_drewN ?_ _ | refine blk_drew ?_ | refine blk_alloc ?_ _)); exact BK148.out⟩, ⟨by repeat (first | (with_reducible first | exact HB.out | apply below_alloc | apply pw_below_drewN | apply below_drew1 | refine below_set ?_ GE148.out) | exact HB.out)⟩⟩
    · have hmd_ : decide ((a0_3.size : Int) < (a0_4.size : Int)) = false := decide_eq_false hm_
      have hmn_ : decide (a0_3.size < a0_4.size) = false := decide_eq_false (by omega)
      have hmt_ := eq_false hm_
      have hmu_ : (a0_3.size < a0_4.size) = False := eq_false (by omega)
      rw [if_neg hm_] at hji4_
      by_cases c5 : (ji4) > 16
      · rw [if_pos c5] at H
        have c5b0 : decide (16 < (ji4)) = true := decide_eq_true c5
        have c5z0 := c5b0
        rw [← hji4_] at c5b0
        have c5n0 : decide (16 < a0_3.size) = true := by (have q_ := of_decide_eq_true c5b0); exact decide_eq_true (by omega)
        clear c5
        (first | rw [c5b0] | (simp only [i64_w, i32_w]; rw [c5b0]) | skip)
        have H' := Aside0.mk H
        clear H
        have hcz6_0 : w3.cell? ⟨gb148, 0, none⟩ = some (.int .i64 a0_0) := (blk_cell BK148.out 0).trans rfl
        have hcz6_1 : w3.cell? ⟨gb148, 1, none⟩ = some (.int .i64 a0_1) := (blk_cell BK148.out 1).trans rfl
        have hcz6_2 : w3.cell? ⟨gb148, 2, none⟩ = some (.int .i64 a0_2) := (blk_cell BK148.out 2).trans rfl
        have hcz6_3 : w3.cell? ⟨gb148, 3, none⟩ = some (.string a0_3) := (blk_cell BK148.out 3).trans rfl
        have hcz6_4 : w3.cell? ⟨gb148, 4, none⟩ = some (.string a0_4) := (blk_cell BK148.out 4).trans rfl
        have hcz6_5 : w3.cell? ⟨gb148, 5, none⟩ = some (.slice A0_5 l0_5.length c0_5) := (blk_cell BK148.out 5).trans rfl
        have hcz6_6 : w3.cell? ⟨gb148, 6, none⟩ = some (.slice A0_6 l0_6.length c0_6) := (blk_cell BK148.out 6).trans rfl
        have hfz6_0 := blk_frozen BK148.out 0
        have hfz6_1 := blk_frozen BK148.out 1
        have hfz6_2 := blk_frozen BK148.out 2
        have hfz6_3 := blk_frozen BK148.out 3
        have hfz6_4 := blk_frozen BK148.out 4
        have hfz6_5 := blk_frozen BK148.out 5
        have hfz6_6 := blk_frozen BK148.out 6
        go_wp2
        go_meet
        case rel => exact ⟨_, (true), (by first | rfl | (simp; done) | (simp [*]; done)), H', ⟨by first | omega | exact Nat.le_refl _⟩, ⟨by (with_reducible repeat (first | refine blk_drewN ?_ _ | refine blk_drew ?_ | refine blk_alloc ?_ _)); exact BK148.out⟩, ⟨by repeat (first | (with_reducible first | exact HB.out | apply below_alloc | apply pw_below_drewN | apply below_drew1 | refine below_set ?_ GE148.out) | exact HB.out)⟩⟩
      · rw [if_neg c5] at H
        have c5b0 : decide (16 < (ji4)) = false := decide_eq_false c5
        have c5z0 := c5b0
        rw [← hji4_] at c5b0
        have c5n0 : decide (16 < a0_3.size) = false := by (have q_ := of_decide_eq_false c5b0); exact decide_eq_false (by omega)
        clear c5
        (first | rw [c5b0] | (simp only [i64_w, i32_w]; rw [c5b0]) | skip)
        by_cases c7 : (l0_5.length : Int) > 8
        · rw [if_pos c7] at H
          have c7b0 : decide (8 < (l0_5.length : Int)) = true := decide_eq_true c7
          have c7b1 : decide (8 < l0_5.length) = true := decide_eq_true (by omega)
          clear c7
          have H' := Aside0.mk H
          clear H
          have hcz8_0 : w3.cell? ⟨gb148, 0, none⟩ = some (.int .i64 a0_0) := (blk_cell BK148.out 0).trans rfl
          have hcz8_1 : w3.cell? ⟨gb148, 1, none⟩ = some (.int .i64 a0_1) := (blk_cell BK148.out 1).trans rfl
          have hcz8_2 : w3.cell? ⟨gb148, 2, none⟩ = some (.int .i64 a0_2) := (blk_cell BK148.out 2).trans rfl
          have hcz8_3 : w3.cell? ⟨gb148, 3, none⟩ = some (.string a0_3) := (blk_cell BK148.out 3).trans rfl
          have hcz8_4 : w3.cell? ⟨gb148, 4, none⟩ = some (.string a0_4) := (blk_cell BK148.out 4).trans rfl
          have hcz8_5 : w3.cell? ⟨gb148, 5, none⟩ = some (.slice A0_5 l0_5.length c0_5) := (blk_cell BK148.out 5).trans rfl
          have hcz8_6 : w3.cell? ⟨gb148, 6, none⟩ = some (.slice A0_6 l0_6.length c0_6) := (blk_cell BK148.out 6).trans rfl
          have hfz8_0 := blk_frozen BK148.out 0
          have hfz8_1 := blk_frozen BK148.out 1
          have hfz8_2 := blk_frozen BK148.out 2
          have hfz8_3 := blk_frozen BK148.out 3
          have hfz8_4 := blk_frozen BK148.out 4
          have hfz8_5 := blk_frozen BK148.out 5
          have hfz8_6 := blk_frozen BK148.out 6
          go_wp2
          go_meet
          case rel => exact ⟨_, (true), (by first | rfl | (simp; done) | (simp [*]; done)), H', ⟨by first | omega | exact Nat.le_refl _⟩, ⟨by (with_reducible repeat (first | refine blk_drewN ?_ _ | refine blk_drew ?_ | refine blk_alloc ?_ _)); exact BK148.out⟩, ⟨by repeat (first | (with_reducible first | exact HB.out | apply below_alloc | apply pw_below_drewN | apply below_drew1 | refine below_set ?_ GE148.out) | exact HB.out)⟩⟩
        · rw [if_neg c7] at H
          have c7b0 : decide (8 < (l0_5.length : Int)) = false := decide_eq_false c7
          have c7b1 : decide (8 < l0_5.length) = false := decide_eq_false (by omega)
          clear c7
          have H' := Aside0.mk H
          clear H
          have hcz9_0 : w3.cell? ⟨gb148, 0, none⟩ = some (.int .i64 a0_0) := (blk_cell BK148.out 0).trans rfl
          have hcz9_1 : w3.cell? ⟨gb148, 1, none⟩ = some (.int .i64 a0_1) := (blk_cell BK148.out 1).trans rfl
          have hcz9_2 : w3.cell? ⟨gb148, 2, none⟩ = some (.int .i64 a0_2) := (blk_cell BK148.out 2).trans rfl
          have hcz9_3 : w3.cell? ⟨gb148, 3, none⟩ = some (.string a0_3) := (blk_cell BK148.out 3).trans rfl
          have hcz9_4 : w3.cell? ⟨gb148, 4, none⟩ = some (.string a0_4) := (blk_cell BK148.out 4).trans rfl
          have hcz9_5 : w3.cell? ⟨gb148, 5, none⟩ = some (.slice A0_5 l0_5.length c0_5) := (blk_cell BK148.out 5).trans rfl
          have hcz9_6 : w3.cell? ⟨gb148, 6, none⟩ = some (.slice A0_6 l0_6.length c0_6) := (blk_cell BK148.out 6).trans rfl
          have hfz9_0 := blk_frozen BK148.out 0
          have hfz9_1 := blk_frozen BK148.out 1
          have hfz9_2 := blk_frozen BK148.out 2
          have hfz9_3 := blk_frozen BK148.out 3
          have hfz9_4 := blk_frozen BK148.out 4
          have hfz9_5 := blk_frozen BK148.out 5
          have hfz9_6 := blk_frozen BK148.out 6
          go_wp2
          go_meet
          case rel => exact ⟨_, (decide ((l0_6.length : Int) > 64)), (by first | rfl | (simp; done) | (simp [*]; done)), H', ⟨by first | omega | exact Nat.le_refl _⟩, ⟨by (with_reducible repeat (first | refine blk_drewN ?_ _ | refine blk_drew ?_ | refine blk_alloc ?_ _)); exact BK148.out⟩, ⟨by repeat (first | (with_reducible first | exact HB.out | apply below_alloc | apply pw_below_drewN | apply below_drew1 | refine below_set ?_ GE148.out) | exact HB.out)⟩⟩
  case rest =>
    clear HC2
    try clear c2
    try clear p2
    try clear c5
    try clear c5b0
    try clear c7
    try clear c7b0
    try clear c7b1
    try clear hcz6_0
    try clear hcz6_1
    try clear hcz6_2
    try clear hcz6_3
    try clear hcz6_4
    try clear hcz6_5
    try clear hcz6_6
    try clear hcz8_0
    try clear hcz8_1
    try clear hcz8_2
    try clear hcz8_3
    try clear hcz8_4
    try clear hcz8_5
    try clear hcz8_6
    try clear hcz9_0
    try clear hcz9_1
    try clear hcz9_2
    try clear hcz9_3
    try clear hcz9_4
    try clear hcz9_5
    try clear hcz9_6
    try clear hfz6_0
    try clear hfz6_1
    try clear hfz6_2
    try clear hfz6_3
    try clear hfz6_4
    try clear hfz6_5
    try clear hfz6_6
    try clear hfz8_0
    try clear hfz8_1
    try clear hfz8_2
    try clear hfz8_3
    try clear hfz8_4
    try clear hfz8_5
    try clear hfz8_6
    try clear hfz9_0
    try clear hfz9_1
    try clear hfz9_2
    try clear hfz9_3
    try clear hfz9_4
    try clear hfz9_5
    try clear hfz9_6
    obtain ⟨kq, x26_1, rfl, HA, HJ1, BK148, HB⟩ := hcut
    cases kq with
    | zero => exact absurd HA.out (by simp [entry_Encode.j0])
    | succ kj1 =>
      have H := HA.out
      clear HA
      simp only [entry_Encode.j0] at H
      by_cases c10 : x26_1 = true
      · subst c10
        have H1 : (some (([] : List Int), 3)) = some (r1, r2) := by rw [if_pos rfl] at H; exact H
        clear H
        have H := H1
        clear H1
        simp only [Option.some.injEq, Prod.mk.injEq] at H
        obtain ⟨rfl, rfl⟩ := H
        go_wp2
        go_ret2
        exact ⟨_, by first | rfl | (simp [errW_none, errW_some] <;> rfl) | (simp [*, errW_none, errW_some] <;> rfl), Kd.V_nil _ _ _ _ _, by repeat (first | (with_reducible first | exact HB.out | apply below_alloc | apply pw_below_drewN | apply below_drew1 | refine below_set ?_ GE148.out) | exact HB.out)⟩
      · replace c10 := Bool.eq_false_iff.mpr c10
        subst c10
        have H1 : ((entry_ints.f kj1 ([] : List Int) (([a0_0, a0_1, a0_2] : List Int))).bind fun t152 => ((entry_word.f t152 a0_3).bind fun t155 => ((entry_word.f t155 a0_4).bind fun t158 => ((entry_ints.f kj1 t158 (([(l0_5.length : Int)] : List Int))).bind fun t164 => ((entry_ints.f kj1 t164 l0_5).bind fun t167 => ((entry_ints.f kj1 t167 (([(l0_6.length : Int)] : List Int))).bind fun t173 => (entry_Encode.l0 kj1 t173 l0_6 (l0_6.length : Int) 0))))))) = some (r1, r2) := by rw [if_neg (show ¬ (false = true) by decide)] at H; exact H
        clear H
        have H := H1
        clear H1
        obtain ⟨y149, hy149⟩ : ∃ y_ : List Int, y_ = (([a0_0, a0_1, a0_2] : List Int)) := ⟨_, rfl⟩
        replace H : ((entry_ints.f kj1 ([] : List Int) y149).bind fun t152 => ((entry_word.f t152 a0_3).bind fun t155 => ((entry_word.f t155 a0_4).bind fun t158 => ((entry_ints.f kj1 t158 (([(l0_5.length : Int)] : List Int))).bind fun t164 => ((entry_ints.f kj1 t164 l0_5).bind fun t167 => ((entry_ints.f kj1 t167 (([(l0_6.length : Int)] : List Int))).bind fun t173 => (entry_Encode.l0 kj1 t173 l0_6 (l0_6.length : Int) 0))))))) = some (r1, r2) := by first | (rw [hy149]; with_reducible exact H) | (have H2_ := (Option.bind_some _ _).symm.trans H; rw [hy149]; with_reducible exact H2_) | (have H2_ := (Option.bind_some _ _).symm.trans H; with_reducible exact H2_) | with_reducible exact H | (rw [hy149]; exact H) | exact H
        have Ny149 := Aside0.mk hy149
        clear hy149
        replace H := Option.bind_eq_some_iff.mp H
        obtain ⟨t152, A110, H⟩ := H
        replace H : ((entry_word.f t152 a0_3).bind fun t155 => ((entry_word.f t155 a0_4).bind fun t158 => ((entry_ints.f kj1 t158 (([(l0_5.length : Int)] : List Int))).bind fun t164 => ((entry_ints.f kj1 t164 l0_5).bind fun t167 => ((entry_ints.f kj1 t167 (([(l0_6.length : Int)] : List Int))).bind fun t173 => (entry_Encode.l0 kj1 t173 l0_6 (l0_6.length : Int) 0)))))) = some (r1, r2) := H
        have A11 := Aside0.mk A110
        clear A110
        replace H := Option.bind_eq_some_iff.mp H
        obtain ⟨t155, A120, H⟩ := H
        replace H : ((entry_word.f t155 a0_4).bind fun t158 => ((entry_ints.f kj1 t158 (([(l0_5.length : Int)] : List Int))).bind fun t164 => ((entry_ints.f kj1 t164 l0_5).bind fun t167 => ((entry_ints.f kj1 t167 (([(l0_6.length : Int)] : List Int))).bind fun t173 => (entry_Encode.l0 kj1 t173 l0_6 (l0_6.length : Int) 0))))) = some (r1, r2) := H
        have A12 := Aside0.mk A120
        clear A120
        replace H := Option.bind_eq_some_iff.mp H
        obtain ⟨t158, A130, H⟩ := H
        replace H : ((entry_ints.f kj1 t158 (([(l0_5.length : Int)] : List Int))).bind fun t164 => ((entry_ints.f kj1 t164 l0_5).bind fun t167 => ((entry_ints.f kj1 t167 (([(l0_6.length : Int)] : List Int))).bind fun t173 => (entry_Encode.l0 kj1 t173 l0_6 (l0_6.length : Int) 0)))) = some (r1, r2) := H
        have A13 := Aside0.mk A130
        clear A130
        obtain ⟨y161, hy161⟩ : ∃ y_ : List Int, y_ = (([(l0_5.length : Int)] : List Int)) := ⟨_, rfl⟩
        replace H : ((entry_ints.f kj1 t158 y161).bind fun t164 => ((entry_ints.f kj1 t164 l0_5).bind fun t167 => ((entry_ints.f kj1 t167 (([(l0_6.length : Int)] : List Int))).bind fun t173 => (entry_Encode.l0 kj1 t173 l0_6 (l0_6.length : Int) 0)))) = some (r1, r2) := by first | (rw [hy161]; with_reducible exact H) | (have H2_ := (Option.bind_some _ _).symm.trans H; rw [hy161]; with_reducible exact H2_) | (have H2_ := (Option.bind_some _ _).symm.trans H; with_reducible exact H2_) | with_reducible exact H | (rw [hy161]; exact H) | exact H
        have Ny161 := Aside0.mk hy161
        clear hy161
        replace H := Option.bind_eq_some_iff.mp H
        obtain ⟨t164, A140, H⟩ := H
        replace H : ((entry_ints.f kj1 t164 l0_5).bind fun t167 => ((entry_ints.f kj1 t167 (([(l0_6.length : Int)] : List Int))).bind fun t173 => (entry_Encode.l0 kj1 t173 l0_6 (l0_6.length : Int) 0))) = some (r1, r2) := H
        have A14 := Aside0.mk A140
        clear A140
        replace H := Option.bind_eq_some_iff.mp H
        obtain ⟨t167, A150, H⟩ := H
        replace H : ((entry_ints.f kj1 t167 (([(l0_6.length : Int)] : List Int))).bind fun t173 => (entry_Encode.l0 kj1 t173 l0_6 (l0_6.length : Int) 0)) = some (r1, r2) := H
        have A15 := Aside0.mk A150
        clear A150
        obtain ⟨y170, hy170⟩ : ∃ y_ : List Int, y_ = (([(l0_6.length : Int)] : List Int)) := ⟨_, rfl⟩
        replace H : ((entry_ints.f kj1 t167 y170).bind fun t173 => (entry_Encode.l0 kj1 t173 l0_6 (l0_6.length : Int) 0)) = some (r1, r2) := by first | (rw [hy170]; with_reducible exact H) | (have H2_ := (Option.bind_some _ _).symm.trans H; rw [hy170]; with_reducible exact H2_) | (have H2_ := (Option.bind_some _ _).symm.trans H; with_reducible exact H2_) | with_reducible exact H | (rw [hy170]; exact H) | exact H
        have Ny170 := Aside0.mk hy170
        clear hy170
        replace H := Option.bind_eq_some_iff.mp H
        obtain ⟨t173, A160, H⟩ := H
        replace H : (entry_Encode.l0 kj1 t173 l0_6 (l0_6.length : Int) 0) = some (r1, r2) := H
        have A16 := Aside0.mk A160
        clear A160
        have H' := Aside0.mk H
        clear H
        have hcz17_0 : wc.cell? ⟨gb148, 0, none⟩ = some (.int .i64 a0_0) := (blk_cell BK148.out 0).trans rfl
        have hcz17_1 : wc.cell? ⟨gb148, 1, none⟩ = some (.int .i64 a0_1) := (blk_cell BK148.out 1).trans rfl
        have hcz17_2 : wc.cell? ⟨gb148, 2, none⟩ = some (.int .i64 a0_2) := (blk_cell BK148.out 2).trans rfl
        have hcz17_3 : wc.cell? ⟨gb148, 3, none⟩ = some (.string a0_3) := (blk_cell BK148.out 3).trans rfl
        have hcz17_4 : wc.cell? ⟨gb148, 4, none⟩ = some (.string a0_4) := (blk_cell BK148.out 4).trans rfl
        have hcz17_5 : wc.cell? ⟨gb148, 5, none⟩ = some (.slice A0_5 l0_5.length c0_5) := (blk_cell BK148.out 5).trans rfl
        have hcz17_6 : wc.cell? ⟨gb148, 6, none⟩ = some (.slice A0_6 l0_6.length c0_6) := (blk_cell BK148.out 6).trans rfl
        have hfz17_0 := blk_frozen BK148.out 0
        have hfz17_1 := blk_frozen BK148.out 1
        have hfz17_2 := blk_frozen BK148.out 2
        have hfz17_3 := blk_frozen BK148.out 3
        have hfz17_4 := blk_frozen BK148.out 4
        have hfz17_5 := blk_frozen BK148.out 5
        have hfz17_6 := blk_frozen BK148.out 6
        try go_wp2_with (first | ((with_reducible refine gate_dst (N := 33) rfl ?_); (try (refine gate_guard (by rfl) ?_; dsimp only)); refine Kd.R_lit (Kd.int .i64) _ 3 ?hg (N := 33) ?hd (xs := ([a0_0, a0_1, a0_2] : List Int)) (inner := [.int .i64 a0_0, .int .i64 a0_1, .int .i64 a0_2]) (ok := fun _ => True) (okp := fun _ => True) ?hr ?hp (fun _ hk => hk) trivial (Below.refl _ _) (Nat.le_refl _) (by simp) ?_; (case hd => rfl); (case hg => rfl); (case hr => first | (go_simp; done) | (go_simp; rfl)); (case hp => exact (Reps.one (show Kd.M (Kd.int .i64) _ _ _ a0_0 [.int .i64 a0_0] from rfl) (Reps.one (show Kd.M (Kd.int .i64) _ _ _ a0_1 [.int .i64 a0_1] from rfl) (Reps.one (show Kd.M (Kd.int .i64) _ _ _ a0_2 [.int .i64 a0_2] from rfl) (Reps.none _ _))))); intro v150 w18 ho19 hb hg_ hnew_; clear hg_ hnew_; (first | rw [← Ny149.out] at ho19 | (simp only [Int.reduceToNat] at ho19; rw [← Ny149.out] at ho19)); have n0_ := Aside0.mk (Kd.R_lower (Kd.R_newM (M := fun k_ => (w.heap.size ≤ k_)) ho19 (below_size (by repeat (first | (with_reducible first | exact HB.out | apply below_alloc | apply pw_below_drewN | apply below_drew1 | refine below_set ?_ GE148.out) | exact HB.out))) (fun k_ h_ => h_)) (below_size (by repeat (first | (with_reducible first | exact HB.out | apply below_alloc | apply pw_below_drewN | apply below_drew1 | refine below_set ?_ GE148.out) | exact HB.out)))); have n1_ := Aside0.mk (blk_below (g := gb148) (o := .cells #[.int .i64 a0_0, .int .i64 a0_1, .int .i64 a0_2, .string a0_3, .string a0_4, .slice A0_5 l0_5.length c0_5, .slice A0_6 l0_6.length c0_6] 50 (0, 0)) (by (with_reducible repeat (first | refine blk_drewN ?_ _ | refine blk_drew ?_ | refine blk_alloc ?_ _)); exact BK148.out) hb); have n2_ := Aside0.mk (below_step (by repeat (first | (with_reducible first | exact HB.out | apply below_alloc | apply pw_below_drewN | apply below_drew1 | refine below_set ?_ GE148.out) | exact HB.out)) hb); clear BK148; clear HB; have HO151 := n0_; have BK148 := n1_; have HB := n2_; clear n0_ n1_ n2_; clear hb ho19; obtain ⟨Ao20, co20, eo20⟩ := Kd.R_slice HO151.out; subst eo20) | ((with_reducible refine gate_callee (f := 44) rfl ?_); refine goesL_ (some 34) rfl rfl Try.func44 (by kernel_rfl) rfl #[.slice none 0 0, .slice Ao20 y149.length co20] rfl (by (try simp only [List.map_toArray, List.map_cons, List.map_nil]); first | done | rfl | (simp only [List.length_drop, List.length_take]; rfl)) ?_; (refine (entry_ints.calls kj1 (fun k_ => some k_ = (.slice none 0 0 : Value).ownBlock) (.slice none 0 0) ([] : List Int) _ _ y149 t152 w _ ?side1 ?side2 ?side3 ?side4 A11.out).mono ?_); (case side1 => repeat (first | (with_reducible first | exact HB.out | apply below_alloc | apply pw_below_drewN | apply below_drew1 | refine below_set ?_ GE148.out) | exact HB.out)); (case side2 => exact Kd.R_nil _ _ _ _ _); (case side3 => exact Kd.C_kept_own (HO151.out) (fun k_ hk_ hs_ => (fun e_ => by simp [Value.ownBlock] at e_) hs_)); (case side4 => exact (Kd.R_reads' HO151.out).2.1); rintro e w21 ⟨v153, rfl, ho0, hb, hkp⟩; refine ⟨_, rfl, ?_⟩; have n0_ := Aside0.mk (blk_kept (by (with_reducible repeat (first | refine blk_drewN ?_ _ | refine blk_drew ?_ | refine blk_alloc ?_ _)); exact BK148.out) hkp (fun hs_ => (fun e_ => by simp [Value.ownBlock] at e_) hs_)); have n1_ := Aside0.mk (Kd.R_mono (ok' := fun k_ => (w.heap.size ≤ k_)) (Kd.R_keptB (HO151.out) hkp (fun k_ hk_ hs_ => (fun e_ => by simp [Value.ownBlock] at e_) hs_)) (fun k_ hk_ => hk_.1.1)); have n2_ := Aside0.mk (Kd.R_mono (ok' := fun k_ => (w.heap.size ≤ k_)) ho0 (fun k_ hk_ => Or.elim hk_ (fun hs_ => absurd hs_ (by simp [Value.ownBlock])) (fun hn_ => (Nat.le_trans (below_size (by repeat (first | (with_reducible first | exact HB.out | apply below_alloc | apply pw_below_drewN | apply below_drew1 | refine below_set ?_ GE148.out) | exact HB.out))) hn_)))); have n3_ := Aside0.mk (hb); clear BK148; clear HO151; clear HB; have BK148 := n0_; have HO151 := n1_; have HO154 := n2_; have HB := n3_; clear n0_ n1_ n2_ n3_; (try clear hb); (try clear hkp); (try clear ho0)))
        have n0_ := Aside0.mk (Kd.R_drew HO151.out)
        have n1_ := Aside0.mk (Kd.R_drew HO154.out)
        have n2_ := Aside0.mk (blk_drew BK148.out)
        have n3_ := Aside0.mk (below_drew1 HB.out)
        clear HO151
        clear HO154
        clear BK148
        clear HB
        have HO151 := n0_
        have HO154 := n1_
        have BK148 := n2_
        have HB := n3_
        clear n0_ n1_ n2_ n3_
        obtain ⟨Ao23, co23, eo23⟩ := Kd.R_slice HO154.out
        (first | subst eo23 | (injection eo23 with f1_ f2_ f3_; have f4_ := f1_.symm; have f5_ := f3_.symm; clear f1_ f2_ f3_; subst f4_; subst f5_))
        refine start_ (n := 8) (S := fun w' => w'.cell? ⟨gb148, 0, none⟩ = some (.int .i64 a0_0) ∧ w'.cell? ⟨gb148, 1, none⟩ = some (.int .i64 a0_1) ∧ w'.cell? ⟨gb148, 2, none⟩ = some (.int .i64 a0_2) ∧ w'.cell? ⟨gb148, 3, none⟩ = some (.string a0_3) ∧ w'.cell? ⟨gb148, 4, none⟩ = some (.string a0_4) ∧ w'.cell? ⟨gb148, 5, none⟩ = some (.slice A0_5 l0_5.length c0_5) ∧ w'.cell? ⟨gb148, 6, none⟩ = some (.slice A0_6 l0_6.length c0_6)) (ds := []) #[false, false, false, false, false, false, false, false] (by kernel_rfl) rfl rfl ⟨(blk_cell BK148.out 0).trans rfl, (blk_cell BK148.out 1).trans rfl, (blk_cell BK148.out 2).trans rfl, (blk_cell BK148.out 3).trans rfl, (blk_cell BK148.out 4).trans rfl, (blk_cell BK148.out 5).trans rfl, (blk_cell BK148.out 6).trans rfl⟩ (fun hHeld => ?_); refine with_tabW entry_Encode.tab4 entry_Encode.bits4 (fun HT_ HW_ => ?_)
        generalize w21.drew = w22 at HO151 HO154 BK148 HB hHeld ⊢
        refine pure_ (i := 0) (N := some 35) (v := ?_) (a' := ?_) #[true, false, false, false, false, false, false, false] rfl rfl (any_of HT_.out (by kernel_rfl)) (fun _ _ _ h => h) (Or.inl ⟨by rfl, ?_⟩) ?_ ?_
        rotate_left
        · intro w'
          go_simp
          with_reducible rfl
        rotate_left
        · simp only [Act.put, List.setIfInBounds_toArray, List.set_cons_zero, List.set_cons_succ, i64_w, i32_w]
          rfl
        refine pure_ (i := 1) (N := some 36) (v := ?_) (a' := ?_) #[true, true, false, false, false, false, false, false] rfl rfl (any_of HT_.out (by kernel_rfl)) (fun _ _ _ h => h) (Or.inl ⟨by rfl, ?_⟩) ?_ ?_
        rotate_left
        · intro w'
          go_simp
          with_reducible rfl
        rotate_left
        · simp only [Act.put, List.setIfInBounds_toArray, List.set_cons_zero, List.set_cons_succ, i64_w, i32_w]
          rfl
        refine pure_ (i := 4) (N := some 39) (v := ?_) (a' := ?_) #[true, true, false, false, true, false, false, false] rfl rfl (any_of HT_.out (by kernel_rfl)) (fun _ _ _ h => h) (Or.inl ⟨by rfl, ?_⟩) ?_ ?_
        rotate_left
        · intro w'
          go_simp
          with_reducible rfl
        rotate_left
        · simp only [Act.put, List.setIfInBounds_toArray, List.set_cons_zero, List.set_cons_succ, i64_w, i32_w]
          rfl
        refine take_ (i := 2) (N := some 37) (v := ?_) (a' := ?_) #[true, true, true, false, true, false, false, false] rfl rfl (take_ofW HT_.out HW_.out (by kernel_rfl)) (fun _ _ _ h => h) (Or.inl ⟨by rfl, ?_⟩) hHeld ?_ ?_
        rotate_left
        · rintro w' ⟨s0, s1, s2, s3, s4, s5, s6⟩
          go_simp
          with_reducible rfl
        rotate_left
        · simp only [Act.put, List.setIfInBounds_toArray, List.set_cons_zero, List.set_cons_succ, i64_w, i32_w]
          rfl
        refine take_ (i := 5) (N := some 40) (v := ?_) (a' := ?_) #[true, true, true, false, true, true, false, false] rfl rfl (take_ofW HT_.out HW_.out (by kernel_rfl)) (fun _ _ _ h => h) (Or.inl ⟨by rfl, ?_⟩) hHeld ?_ ?_
        rotate_left
        · rintro w' ⟨s0, s1, s2, s3, s4, s5, s6⟩
          go_simp
          with_reducible rfl
        rotate_left
        · simp only [Act.put, List.setIfInBounds_toArray, List.set_cons_zero, List.set_cons_succ, i64_w, i32_w]
          rfl
        refine one_ (i := 3) (N := some 38) #[true, true, true, true, true, true, false, false] rfl rfl (one_of HT_.out (by kernel_rfl)) (by decide) (fun K hK => ?_)
        refine goes_ Try.func45 (by kernel_rfl) rfl #[.slice Ao23 t152.length co23, .string a0_3] (by rfl) rfl rfl (by (try simp only [List.map_toArray, List.map_cons, List.map_nil]); first | done | rfl | (simp only [List.length_drop, List.length_take]; rfl)) ?_
        with_reducible refine (entry_word.calls (fun k_ => some k_ = (.slice Ao23 t152.length co23 : Value).ownBlock) (.slice Ao23 t152.length co23) t152 a0_3 t155 w _ ?side1 ?side2 A12.out).mono ?_
        (case side1 => repeat (first | (with_reducible first | exact HB.out | apply below_alloc | apply pw_below_drewN | apply below_drew1 | refine below_set ?_ GE148.out) | exact HB.out))
        (case side2 => exact Kd.R_tight rfl HO154.out)
        rintro e w24 ⟨v156, rfl, ho0, hb, hkp⟩
        refine ⟨_, rfl, ?_⟩
        have n0_ := Aside0.mk (blk_kept (by (with_reducible repeat (first | refine blk_drewN ?_ _ | refine blk_drew ?_ | refine blk_alloc ?_ _)); exact BK148.out) hkp (fun hs_ => (fun e_ => (Kd.R_ne HO154.out BK148.out (by decide)) e_) hs_))
        have n1_ := Aside0.mk (Kd.R_mono (ok' := fun k_ => (w.heap.size ≤ k_)) (Kd.R_keptB ((Kd.R_apart' HO151.out (Kd.R_typed HO154.out) (by decide))) hkp (fun k_ hk_ hs_ => (hk_.2) hs_)) (fun k_ hk_ => hk_.1.1))
        have n2_ := Aside0.mk (Kd.R_mono (ok' := fun k_ => (w.heap.size ≤ k_)) ho0 (fun k_ hk_ => Or.elim hk_ (fun hs_ => (HO154.out.1 k_ (hs_).symm)) (fun hn_ => (Nat.le_trans (below_size (by repeat (first | (with_reducible first | exact HB.out | apply below_alloc | apply pw_below_drewN | apply below_drew1 | refine below_set ?_ GE148.out) | exact HB.out))) hn_))))
        have n3_ := Aside0.mk (hb)
        clear BK148
        clear HO151
        clear HB
        clear HO154
        have BK148 := n0_
        have HO151 := n1_
        have HO157 := n2_
        have HB := n3_
        clear n0_ n1_ n2_ n3_
        (try clear hb)
        (try clear hkp)
        (try clear ho0)
        obtain ⟨Ao25, co25, eo25⟩ := Kd.R_slice HO157.out
        (first | subst eo25 | (injection eo25 with f1_ f2_ f3_; have f4_ := f1_.symm; have f5_ := f3_.symm; clear f1_ f2_ f3_; subst f4_; subst f5_))
        refine hK.out _ _ ⟨(blk_cell BK148.out 0).trans rfl, (blk_cell BK148.out 1).trans rfl, (blk_cell BK148.out 2).trans rfl, (blk_cell BK148.out 3).trans rfl, (blk_cell BK148.out 4).trans rfl, (blk_cell BK148.out 5).trans rfl, (blk_cell BK148.out 6).trans rfl⟩ (fun hHeld => ?_)
        clear hK K
        refine norm_ (a' := ?_) ?_ ?_
        rotate_left
        · show Act.put _ (some 38) _ = _
          simp only [Act.put, List.setIfInBounds_toArray, List.set_cons_zero, List.set_cons_succ, i64_w, i32_w]
          rfl
        refine one_ (i := 6) (N := some 41) #[true, true, true, true, true, true, true, false] rfl rfl (one_of HT_.out (by kernel_rfl)) (by decide) (fun K hK => ?_)
        refine goes_ Try.func45 (by kernel_rfl) rfl #[.slice Ao25 t155.length co25, .string a0_4] (by rfl) rfl rfl (by (try simp only [List.map_toArray, List.map_cons, List.map_nil]); first | done | rfl | (simp only [List.length_drop, List.length_take]; rfl)) ?_
        with_reducible refine (entry_word.calls (fun k_ => some k_ = (.slice Ao25 t155.length co25 : Value).ownBlock) (.slice Ao25 t155.length co25) t155 a0_4 t158 w _ ?side1 ?side2 A13.out).mono ?_
        (case side1 => repeat (first | (with_reducible first | exact HB.out | apply below_alloc | apply pw_below_drewN | apply below_drew1 | refine below_set ?_ GE148.out) | exact HB.out))
        (case side2 => exact Kd.R_tight rfl HO157.out)
        rintro e w26 ⟨v159, rfl, ho0, hb, hkp⟩
        refine ⟨_, rfl, ?_⟩
        have n0_ := Aside0.mk (blk_kept (by (with_reducible repeat (first | refine blk_drewN ?_ _ | refine blk_drew ?_ | refine blk_alloc ?_ _)); exact BK148.out) hkp (fun hs_ => (fun e_ => (Kd.R_ne HO157.out BK148.out (by decide)) e_) hs_))
        have n1_ := Aside0.mk (Kd.R_mono (ok' := fun k_ => (w.heap.size ≤ k_)) (Kd.R_keptB ((Kd.R_apart' HO151.out (Kd.R_typed HO157.out) (by decide))) hkp (fun k_ hk_ hs_ => (hk_.2) hs_)) (fun k_ hk_ => hk_.1.1))
        have n2_ := Aside0.mk (Kd.R_mono (ok' := fun k_ => (w.heap.size ≤ k_)) ho0 (fun k_ hk_ => Or.elim hk_ (fun hs_ => (HO157.out.1 k_ (hs_).symm)) (fun hn_ => (Nat.le_trans (below_size (by repeat (first | (with_reducible first | exact HB.out | apply below_alloc | apply pw_below_drewN | apply below_drew1 | refine below_set ?_ GE148.out) | exact HB.out))) hn_))))
        have n3_ := Aside0.mk (hb)
        clear BK148
        clear HO151
        clear HB
        clear HO157
        have BK148 := n0_
        have HO151 := n1_
        have HO160 := n2_
        have HB := n3_
        clear n0_ n1_ n2_ n3_
        (try clear hb)
        (try clear hkp)
        (try clear ho0)
        refine hK.out _ _ ⟨(blk_cell BK148.out 0).trans rfl, (blk_cell BK148.out 1).trans rfl, (blk_cell BK148.out 2).trans rfl, (blk_cell BK148.out 3).trans rfl, (blk_cell BK148.out 4).trans rfl, (blk_cell BK148.out 5).trans rfl, (blk_cell BK148.out 6).trans rfl⟩ (fun hHeld => ?_)
        clear hK K
        refine norm_ (a' := ?_) ?_ ?_
        rotate_left
        · show Act.put _ (some 41) _ = _
          simp only [Act.put, List.setIfInBounds_toArray, List.set_cons_zero, List.set_cons_succ, i64_w, i32_w]
          rfl
        refine pure_ (i := 7) (N := some 4) (v := ?_) (a' := ?_) #[true, true, true, true, true, true, true, true] rfl rfl (any_of HT_.out (by kernel_rfl)) (fun _ _ _ h => h) (Or.inl ⟨by rfl, ?_⟩) ?_ ?_
        rotate_left
        · intro w'
          go_simp
          with_reducible rfl
        rotate_left
        · simp only [Act.put, List.setIfInBounds_toArray, List.set_cons_zero, List.set_cons_succ, i64_w, i32_w]
          rfl
        refine done_ (done_of HT_.out (by kernel_rfl)) ?_
        try go_wp2
        have n0_ := Aside0.mk (Kd.R_drew HO151.out)
        have n1_ := Aside0.mk (Kd.R_drew HO160.out)
        have n2_ := Aside0.mk (blk_drew BK148.out)
        have n3_ := Aside0.mk (below_drew1 HB.out)
        clear HO151
        clear HO160
        clear BK148
        clear HB
        have HO151 := n0_
        have HO160 := n1_
        have BK148 := n2_
        have HB := n3_
        clear n0_ n1_ n2_ n3_
        refine start_ (n := 10) (S := fun w' => w'.cell? ⟨gb148, 0, none⟩ = some (.int .i64 a0_0) ∧ w'.cell? ⟨gb148, 1, none⟩ = some (.int .i64 a0_1) ∧ w'.cell? ⟨gb148, 2, none⟩ = some (.int .i64 a0_2) ∧ w'.cell? ⟨gb148, 3, none⟩ = some (.string a0_3) ∧ w'.cell? ⟨gb148, 4, none⟩ = some (.string a0_4) ∧ w'.cell? ⟨gb148, 5, none⟩ = some (.slice A0_5 l0_5.length c0_5) ∧ w'.cell? ⟨gb148, 6, none⟩ = some (.slice A0_6 l0_6.length c0_6)) (ds := []) #[false, false, false, false, false, false, false, false, false, false] (by kernel_rfl) rfl rfl ⟨(blk_cell BK148.out 0).trans rfl, (blk_cell BK148.out 1).trans rfl, (blk_cell BK148.out 2).trans rfl, (blk_cell BK148.out 3).trans rfl, (blk_cell BK148.out 4).trans rfl, (blk_cell BK148.out 5).trans rfl, (blk_cell BK148.out 6).trans rfl⟩ (fun hHeld => ?_); refine with_tabW entry_Encode.tab5 entry_Encode.bits5 (fun HT_ HW_ => ?_)
        generalize w26.drew = w27 at HO151 HO160 BK148 HB hHeld ⊢
        refine pure_ (i := 0) (N := some 42) (v := ?_) (a' := ?_) #[true, false, false, false, false, false, false, false, false, false] rfl rfl (any_of HT_.out (by kernel_rfl)) (fun _ _ _ h => h) (Or.inl ⟨by rfl, ?_⟩) ?_ ?_
        rotate_left
        · intro w'
          go_simp
          with_reducible rfl
        rotate_left
        · simp only [Act.put, List.setIfInBounds_toArray, List.set_cons_zero, List.set_cons_succ, i64_w, i32_w]
          rfl
        refine pure_ (i := 1) (N := some 43) (v := ?_) (a' := ?_) #[true, true, false, false, false, false, false, false, false, false] rfl rfl (any_of HT_.out (by kernel_rfl)) (fun _ _ _ h => h) (Or.inl ⟨by rfl, ?_⟩) ?_ ?_
        rotate_left
        · intro w'
          go_simp
          with_reducible rfl
        rotate_left
        · simp only [Act.put, List.setIfInBounds_toArray, List.set_cons_zero, List.set_cons_succ, i64_w, i32_w]
          rfl
        refine pure_ (i := 6) (N := some 48) (v := ?_) (a' := ?_) #[true, true, false, false, false, false, true, false, false, false] rfl rfl (any_of HT_.out (by kernel_rfl)) (fun _ _ _ h => h) (Or.inl ⟨by rfl, ?_⟩) ?_ ?_
        rotate_left
        · intro w'
          go_simp
          with_reducible rfl
        rotate_left
        · simp only [Act.put, List.setIfInBounds_toArray, List.set_cons_zero, List.set_cons_succ, i64_w, i32_w]
          rfl
        refine take_ (i := 2) (N := some 44) (v := ?_) (a' := ?_) #[true, true, true, false, false, false, true, false, false, false] rfl rfl (take_ofW HT_.out HW_.out (by kernel_rfl)) (fun _ _ _ h => h) (Or.inl ⟨by rfl, ?_⟩) hHeld ?_ ?_
        rotate_left
        · rintro w' ⟨s0, s1, s2, s3, s4, s5, s6⟩
          go_simp
          with_reducible rfl
        rotate_left
        · simp only [Act.put, List.setIfInBounds_toArray, List.set_cons_zero, List.set_cons_succ, i64_w, i32_w]
          rfl
        refine pure_ (i := 3) (N := some 45) (v := ?_) (a' := ?_) #[true, true, true, true, false, false, true, false, false, false] rfl rfl (any_of HT_.out (by kernel_rfl)) (fun _ _ _ h => h) (Or.inl ⟨by rfl, ?_⟩) ?_ ?_
        rotate_left
        · intro w'
          go_simp
          with_reducible rfl
        rotate_left
        · simp only [Act.put, List.setIfInBounds_toArray, List.set_cons_zero, List.set_cons_succ, i64_w, i32_w]
          rfl
        refine take_ (i := 7) (N := some 49) (v := ?_) (a' := ?_) #[true, true, true, true, false, false, true, true, false, false] rfl rfl (take_ofW HT_.out HW_.out (by kernel_rfl)) (fun _ _ _ h => h) (Or.inl ⟨by rfl, ?_⟩) hHeld ?_ ?_
        rotate_left
        · rintro w' ⟨s0, s1, s2, s3, s4, s5, s6⟩
          go_simp
          with_reducible rfl
        rotate_left
        · simp only [Act.put, List.setIfInBounds_toArray, List.set_cons_zero, List.set_cons_succ, i64_w, i32_w]
          rfl
        refine one_ (i := 4) (N := some 46) #[true, true, true, true, true, false, true, true, false, false] rfl rfl (one_of HT_.out (by kernel_rfl)) (by decide) (fun K hK => ?_)
        refine Kd.R_lit_step (Kd.int .i64) _ 3 ?hg (N := 46) ?hd (xs := ([(l0_5.length : Int)] : List Int)) (inner := [.int .i64 (l0_5.length : Int)]) (ok := fun _ => True) (okp := fun _ => True) ?hr ?hp (fun _ hk => hk) trivial (Below.refl _ _) (Nat.le_refl _) (by simp) ?_; (case hd => rfl); (case hg => rfl); (case hr => first | (go_simp; done) | (go_simp; rfl)); (case hp => exact (Reps.one (show Kd.M (Kd.int .i64) _ _ _ (l0_5.length : Int) [.int .i64 (l0_5.length : Int)] from rfl) (Reps.none _ _)))
        intro v162 w28 ho29 hb hg_ hnew_
        clear hg_ hnew_
        (first | rw [← Ny161.out] at ho29 | (simp only [Int.reduceToNat] at ho29; rw [← Ny161.out] at ho29))
        have n0_ := Aside0.mk (Kd.R_elder' (by (with_reducible repeat (first | apply Kd.R_alloc | apply Kd.R_drewN | apply Kd.R_drew)); exact HO151.out) (Kd.R_base ho29) hb)
        have n1_ := Aside0.mk (Kd.R_below (by (with_reducible repeat (first | apply Kd.R_alloc | apply Kd.R_drewN | apply Kd.R_drew)); exact HO160.out) hb)
        have n2_ := Aside0.mk (Kd.R_lower (Kd.R_new' (Kd.R_newM (M := fun k_ => (w.heap.size ≤ k_)) ho29 (below_size (by repeat (first | (with_reducible first | exact HB.out | apply below_alloc | apply pw_below_drewN | apply below_drew1 | refine below_set ?_ GE148.out) | exact HB.out))) (fun k_ h_ => h_)) (Kd.R_lt (by (with_reducible repeat (first | apply Kd.R_alloc | apply Kd.R_drewN | apply Kd.R_drew)); exact HO151.out))) (below_size (by repeat (first | (with_reducible first | exact HB.out | apply below_alloc | apply pw_below_drewN | apply below_drew1 | refine below_set ?_ GE148.out) | exact HB.out))))
        have n3_ := Aside0.mk (blk_below (g := gb148) (o := .cells #[.int .i64 a0_0, .int .i64 a0_1, .int .i64 a0_2, .string a0_3, .string a0_4, .slice A0_5 l0_5.length c0_5, .slice A0_6 l0_6.length c0_6] 50 (0, 0)) (by (with_reducible repeat (first | refine blk_drewN ?_ _ | refine blk_drew ?_ | refine blk_alloc ?_ _)); exact BK148.out) hb)
        have n4_ := Aside0.mk (below_step (by repeat (first | (with_reducible first | exact HB.out | apply below_alloc | apply pw_below_drewN | apply below_drew1 | refine below_set ?_ GE148.out) | exact HB.out)) hb)
        clear HO151
        clear HO160
        clear BK148
        clear HB
        have HO151 := n0_
        have HO160 := n1_
        have HO163 := n2_
        have BK148 := n3_
        have HB := n4_
        clear n0_ n1_ n2_ n3_ n4_
        clear hb ho29
        obtain ⟨Ao30, co30, eo30⟩ := Kd.R_slice HO160.out
        (first | subst eo30 | (injection eo30 with f1_ f2_ f3_; have f4_ := f1_.symm; have f5_ := f3_.symm; clear f1_ f2_ f3_; subst f4_; subst f5_))
        obtain ⟨Ao31, co31, eo31⟩ := Kd.R_slice HO163.out
        (first | subst eo31 | (injection eo31 with f1_ f2_ f3_; have f4_ := f1_.symm; have f5_ := f3_.symm; clear f1_ f2_ f3_; subst f4_; subst f5_))
        refine hK.out _ _ ⟨(blk_cell BK148.out 0).trans rfl, (blk_cell BK148.out 1).trans rfl, (blk_cell BK148.out 2).trans rfl, (blk_cell BK148.out 3).trans rfl, (blk_cell BK148.out 4).trans rfl, (blk_cell BK148.out 5).trans rfl, (blk_cell BK148.out 6).trans rfl⟩ (fun hHeld => ?_)
        clear hK K
        refine norm_ (a' := ?_) ?_ ?_
        rotate_left
        · show Act.put _ (some 46) _ = _
          simp only [Act.put, List.setIfInBounds_toArray, List.set_cons_zero, List.set_cons_succ, i64_w, i32_w]
          rfl
        refine one_ (i := 5) (N := some 47) #[true, true, true, true, true, true, true, true, false, false] rfl rfl (one_of HT_.out (by kernel_rfl)) (by decide) (fun K hK => ?_)
        refine goes_ Try.func44 (by kernel_rfl) rfl #[.slice Ao30 t158.length co30, .slice Ao31 y161.length co31] (by rfl) rfl rfl (by (try simp only [List.map_toArray, List.map_cons, List.map_nil]); first | done | rfl | (simp only [List.length_drop, List.length_take]; rfl)) ?_
        with_reducible refine (entry_ints.calls kj1 (fun k_ => some k_ = (.slice Ao30 t158.length co30 : Value).ownBlock) (.slice Ao30 t158.length co30) t158 _ _ y161 t164 w _ ?side1 ?side2 ?side3 ?side4 A14.out).mono ?_
        (case side1 => repeat (first | (with_reducible first | exact HB.out | apply below_alloc | apply pw_below_drewN | apply below_drew1 | refine below_set ?_ GE148.out) | exact HB.out))
        (case side2 => exact Kd.R_tight rfl HO160.out)
        (case side3 => exact Kd.C_kept_own ((Kd.R_apart' HO163.out (Kd.R_typed HO160.out) (by decide))) (fun k_ hk_ hs_ => (hk_.2) hs_))
        (case side4 => exact (Kd.R_reads' HO163.out).2.1)
        rintro e w32 ⟨v165, rfl, ho0, hb, hkp⟩
        refine ⟨_, rfl, ?_⟩
        have n0_ := Aside0.mk (blk_kept (by (with_reducible repeat (first | refine blk_drewN ?_ _ | refine blk_drew ?_ | refine blk_alloc ?_ _)); exact BK148.out) hkp (fun hs_ => (fun e_ => (Kd.R_ne HO160.out BK148.out (by decide)) e_) hs_))
        have n1_ := Aside0.mk (Kd.R_mono (ok' := fun k_ => (w.heap.size ≤ k_) ∧ some k_ ≠ (.slice Ao31 y161.length co31 : Value).ownBlock) (Kd.R_keptB ((Kd.R_apart' HO151.out (Kd.R_typed HO160.out) (by decide))) hkp (fun k_ hk_ hs_ => (hk_.2) hs_)) (fun k_ hk_ => ⟨hk_.1.1.1, hk_.1.1.2⟩))
        have n2_ := Aside0.mk (Kd.R_mono (ok' := fun k_ => (w.heap.size ≤ k_) ∧ some k_ ≠ (.slice Ao20 y149.length co20 : Value).ownBlock) (Kd.R_keptB ((Kd.R_apart' HO163.out (Kd.R_typed HO160.out) (by decide))) hkp (fun k_ hk_ hs_ => (hk_.2) hs_)) (fun k_ hk_ => ⟨hk_.1.1.1.1, hk_.1.1.2⟩))
        have n3_ := Aside0.mk (Kd.R_mono (ok' := fun k_ => (w.heap.size ≤ k_)) ho0 (fun k_ hk_ => Or.elim hk_ (fun hs_ => (HO160.out.1 k_ (hs_).symm)) (fun hn_ => (Nat.le_trans (below_size (by repeat (first | (with_reducible first | exact HB.out | apply below_alloc | apply pw_below_drewN | apply below_drew1 | refine below_set ?_ GE148.out) | exact HB.out))) hn_))))
        have n4_ := Aside0.mk (hb)
        clear BK148
        clear HO151
        clear HO163
        clear HB
        clear HO160
        have BK148 := n0_
        have HO151 := n1_
        have HO163 := n2_
        have HO166 := n3_
        have HB := n4_
        clear n0_ n1_ n2_ n3_ n4_
        (try clear hb)
        (try clear hkp)
        (try clear ho0)
        obtain ⟨Ao33, co33, eo33⟩ := Kd.R_slice HO166.out
        (first | subst eo33 | (injection eo33 with f1_ f2_ f3_; have f4_ := f1_.symm; have f5_ := f3_.symm; clear f1_ f2_ f3_; subst f4_; subst f5_))
        refine hK.out _ _ ⟨(blk_cell BK148.out 0).trans rfl, (blk_cell BK148.out 1).trans rfl, (blk_cell BK148.out 2).trans rfl, (blk_cell BK148.out 3).trans rfl, (blk_cell BK148.out 4).trans rfl, (blk_cell BK148.out 5).trans rfl, (blk_cell BK148.out 6).trans rfl⟩ (fun hHeld => ?_)
        clear hK K
        refine norm_ (a' := ?_) ?_ ?_
        rotate_left
        · show Act.put _ (some 47) _ = _
          simp only [Act.put, List.setIfInBounds_toArray, List.set_cons_zero, List.set_cons_succ, i64_w, i32_w]
          rfl
        refine one_ (i := 8) (N := some 50) #[true, true, true, true, true, true, true, true, true, false] rfl rfl (one_of HT_.out (by kernel_rfl)) (by decide) (fun K hK => ?_)
        refine goes_ Try.func44 (by kernel_rfl) rfl #[.slice Ao33 t164.length co33, .slice A0_5 l0_5.length c0_5] (by rfl) rfl rfl (by (try simp only [List.map_toArray, List.map_cons, List.map_nil]); first | done | rfl | (simp only [List.length_drop, List.length_take]; rfl)) ?_
        with_reducible refine (entry_ints.calls kj1 (fun k_ => some k_ = (.slice Ao33 t164.length co33 : Value).ownBlock) (.slice Ao33 t164.length co33) t164 _ _ l0_5 t167 w _ ?side1 ?side2 ?side3 ?side4 A15.out).mono ?_
        (case side1 => repeat (first | (with_reducible first | exact HB.out | apply below_alloc | apply pw_below_drewN | apply below_drew1 | refine below_set ?_ GE148.out) | exact HB.out))
        (case side2 => exact Kd.R_tight rfl HO166.out)
        (case side3 => exact Kd.C_kept_came (Kd.heap_int .i64) HR0_5.out (by repeat (first | (with_reducible first | exact HB.out | apply below_alloc | apply pw_below_drewN | apply below_drew1 | refine below_set ?_ GE148.out) | exact HB.out)) (fun k_ hs_ => (fun e_ => Kd.R_base HO166.out k_ e_.symm) hs_))
        (case side4 => exact HC0_5.out)
        rintro e w34 ⟨v168, rfl, ho0, hb, hkp⟩
        refine ⟨_, rfl, ?_⟩
        have n0_ := Aside0.mk (blk_kept (by (with_reducible repeat (first | refine blk_drewN ?_ _ | refine blk_drew ?_ | refine blk_alloc ?_ _)); exact BK148.out) hkp (fun hs_ => (fun e_ => (Kd.R_ne HO166.out BK148.out (by decide)) e_) hs_))
        have n1_ := Aside0.mk (Kd.R_mono (ok' := fun k_ => (w.heap.size ≤ k_) ∧ some k_ ≠ (.slice Ao31 y161.length co31 : Value).ownBlock) (Kd.R_keptB ((Kd.R_apart' HO151.out (Kd.R_typed HO166.out) (by decide))) hkp (fun k_ hk_ hs_ => (hk_.2) hs_)) (fun k_ hk_ => ⟨hk_.1.1.1, hk_.1.1.2⟩))
        have n2_ := Aside0.mk (Kd.R_mono (ok' := fun k_ => (w.heap.size ≤ k_) ∧ some k_ ≠ (.slice Ao20 y149.length co20 : Value).ownBlock) (Kd.R_keptB ((Kd.R_apart' HO163.out (Kd.R_typed HO166.out) (by decide))) hkp (fun k_ hk_ hs_ => (hk_.2) hs_)) (fun k_ hk_ => ⟨hk_.1.1.1, hk_.1.1.2⟩))
        have n3_ := Aside0.mk (Kd.R_mono (ok' := fun k_ => (w.heap.size ≤ k_)) ho0 (fun k_ hk_ => Or.elim hk_ (fun hs_ => (HO166.out.1 k_ (hs_).symm)) (fun hn_ => (Nat.le_trans (below_size (by repeat (first | (with_reducible first | exact HB.out | apply below_alloc | apply pw_below_drewN | apply below_drew1 | refine below_set ?_ GE148.out) | exact HB.out))) hn_))))
        have n4_ := Aside0.mk (hb)
        clear BK148
        clear HO151
        clear HO163
        clear HB
        clear HO166
        have BK148 := n0_
        have HO151 := n1_
        have HO163 := n2_
        have HO169 := n3_
        have HB := n4_
        clear n0_ n1_ n2_ n3_ n4_
        (try clear hb)
        (try clear hkp)
        (try clear ho0)
        refine hK.out _ _ ⟨(blk_cell BK148.out 0).trans rfl, (blk_cell BK148.out 1).trans rfl, (blk_cell BK148.out 2).trans rfl, (blk_cell BK148.out 3).trans rfl, (blk_cell BK148.out 4).trans rfl, (blk_cell BK148.out 5).trans rfl, (blk_cell BK148.out 6).trans rfl⟩ (fun hHeld => ?_)
        clear hK K
        refine norm_ (a' := ?_) ?_ ?_
        rotate_left
        · show Act.put _ (some 50) _ = _
          simp only [Act.put, List.setIfInBounds_toArray, List.set_cons_zero, List.set_cons_succ, i64_w, i32_w]
          rfl
        refine pure_ (i := 9) (N := some 4) (v := ?_) (a' := ?_) #[true, true, true, true, true, true, true, true, true, true] rfl rfl (any_of HT_.out (by kernel_rfl)) (fun _ _ _ h => h) (Or.inl ⟨by rfl, ?_⟩) ?_ ?_
        rotate_left
        · intro w'
          go_simp
          with_reducible rfl
        rotate_left
        · simp only [Act.put, List.setIfInBounds_toArray, List.set_cons_zero, List.set_cons_succ, i64_w, i32_w]
          rfl
        refine done_ (done_of HT_.out (by kernel_rfl)) ?_
        have hcz35_0 : w34.cell? ⟨gb148, 0, none⟩ = some (.int .i64 a0_0) := (blk_cell BK148.out 0).trans rfl
        have hcz35_1 : w34.cell? ⟨gb148, 1, none⟩ = some (.int .i64 a0_1) := (blk_cell BK148.out 1).trans rfl
        have hcz35_2 : w34.cell? ⟨gb148, 2, none⟩ = some (.int .i64 a0_2) := (blk_cell BK148.out 2).trans rfl
        have hcz35_3 : w34.cell? ⟨gb148, 3, none⟩ = some (.string a0_3) := (blk_cell BK148.out 3).trans rfl
        have hcz35_4 : w34.cell? ⟨gb148, 4, none⟩ = some (.string a0_4) := (blk_cell BK148.out 4).trans rfl
        have hcz35_5 : w34.cell? ⟨gb148, 5, none⟩ = some (.slice A0_5 l0_5.length c0_5) := (blk_cell BK148.out 5).trans rfl
        have hcz35_6 : w34.cell? ⟨gb148, 6, none⟩ = some (.slice A0_6 l0_6.length c0_6) := (blk_cell BK148.out 6).trans rfl
        have hfz35_0 := blk_frozen BK148.out 0
        have hfz35_1 := blk_frozen BK148.out 1
        have hfz35_2 := blk_frozen BK148.out 2
        have hfz35_3 := blk_frozen BK148.out 3
        have hfz35_4 := blk_frozen BK148.out 4
        have hfz35_5 := blk_frozen BK148.out 5
        have hfz35_6 := blk_frozen BK148.out 6
        try go_wp2_with (first | ((with_reducible refine gate_dst (N := 55) rfl ?_); (try (refine gate_guard (by rfl) ?_; dsimp only)); refine Kd.R_lit (Kd.int .i64) _ 3 ?hg (N := 55) ?hd (xs := ([(l0_6.length : Int)] : List Int)) (inner := [.int .i64 (l0_6.length : Int)]) (ok := fun _ => True) (okp := fun _ => True) ?hr ?hp (fun _ hk => hk) trivial (Below.refl _ _) (Nat.le_refl _) (by simp) ?_; (case hd => rfl); (case hg => rfl); (case hr => first | (go_simp; done) | (go_simp; rfl)); (case hp => exact (Reps.one (show Kd.M (Kd.int .i64) _ _ _ (l0_6.length : Int) [.int .i64 (l0_6.length : Int)] from rfl) (Reps.none _ _))); intro v171 w36 ho37 hb hg_ hnew_; clear hg_ hnew_; (first | rw [← Ny170.out] at ho37 | (simp only [Int.reduceToNat] at ho37; rw [← Ny170.out] at ho37)); have n0_ := Aside0.mk (Kd.R_elder' (by (with_reducible repeat (first | apply Kd.R_alloc | apply Kd.R_drewN | apply Kd.R_drew)); exact HO151.out) (Kd.R_base ho37) hb); have n1_ := Aside0.mk (Kd.R_elder' (by (with_reducible repeat (first | apply Kd.R_alloc | apply Kd.R_drewN | apply Kd.R_drew)); exact HO163.out) (Kd.R_base ho37) hb); have n2_ := Aside0.mk (Kd.R_below (by (with_reducible repeat (first | apply Kd.R_alloc | apply Kd.R_drewN | apply Kd.R_drew)); exact HO169.out) hb); have n3_ := Aside0.mk (Kd.R_lower (Kd.R_new' (Kd.R_new' (Kd.R_newM (M := fun k_ => (w.heap.size ≤ k_)) ho37 (below_size (by repeat (first | (with_reducible first | exact HB.out | apply below_alloc | apply pw_below_drewN | apply below_drew1 | refine below_set ?_ GE148.out) | exact HB.out))) (fun k_ h_ => h_)) (Kd.R_lt (by (with_reducible repeat (first | apply Kd.R_alloc | apply Kd.R_drewN | apply Kd.R_drew)); exact HO151.out))) (Kd.R_lt (by (with_reducible repeat (first | apply Kd.R_alloc | apply Kd.R_drewN | apply Kd.R_drew)); exact HO163.out))) (below_size (by repeat (first | (with_reducible first | exact HB.out | apply below_alloc | apply pw_below_drewN | apply below_drew1 | refine below_set ?_ GE148.out) | exact HB.out)))); have n4_ := Aside0.mk (blk_below (g := gb148) (o := .cells #[.int .i64 a0_0, .int .i64 a0_1, .int .i64 a0_2, .string a0_3, .string a0_4, .slice A0_5 l0_5.length c0_5, .slice A0_6 l0_6.length c0_6] 50 (0, 0)) (by (with_reducible repeat (first | refine blk_drewN ?_ _ | refine blk_drew ?_ | refine blk_alloc ?_ _)); exact BK148.out) hb); have n5_ := Aside0.mk (below_step (by repeat (first | (with_reducible first | exact HB.out | apply below_alloc | apply pw_below_drewN | apply below_drew1 | refine below_set ?_ GE148.out) | exact HB.out)) hb); clear HO151; clear HO163; clear HO169; clear BK148; clear HB; have HO151 := n0_; have HO163 := n1_; have HO169 := n2_; have HO172 := n3_; have BK148 := n4_; have HB := n5_; clear n0_ n1_ n2_ n3_ n4_ n5_; clear hb ho37; obtain ⟨Ao38, co38, eo38⟩ := Kd.R_slice HO169.out; subst eo38; obtain ⟨Ao39, co39, eo39⟩ := Kd.R_slice HO172.out; subst eo39) | ((with_reducible refine gate_callee (f := 44) rfl ?_); refine goesL_ (some 56) rfl rfl Try.func44 (by kernel_rfl) rfl #[.slice Ao38 t167.length co38, .slice Ao39 y170.length co39] rfl (by (try simp only [List.map_toArray, List.map_cons, List.map_nil]); first | done | rfl | (simp only [List.length_drop, List.length_take]; rfl)) ?_; (with_reducible refine (entry_ints.calls kj1 (fun k_ => some k_ = (.slice Ao38 t167.length co38 : Value).ownBlock) (.slice Ao38 t167.length co38) t167 _ _ y170 t173 w _ ?side1 ?side2 ?side3 ?side4 A16.out).mono ?_); (case side1 => repeat (first | (with_reducible first | exact HB.out | apply below_alloc | apply pw_below_drewN | apply below_drew1 | refine below_set ?_ GE148.out) | exact HB.out)); (case side2 => exact Kd.R_tight rfl HO169.out); (case side3 => exact Kd.C_kept_own ((Kd.R_apart' HO172.out (Kd.R_typed HO169.out) (by decide))) (fun k_ hk_ hs_ => (hk_.2) hs_)); (case side4 => exact (Kd.R_reads' HO172.out).2.1); rintro e w40 ⟨v174, rfl, ho0, hb, hkp⟩; refine ⟨_, rfl, ?_⟩; have n0_ := Aside0.mk (blk_kept (by (with_reducible repeat (first | refine blk_drewN ?_ _ | refine blk_drew ?_ | refine blk_alloc ?_ _)); exact BK148.out) hkp (fun hs_ => (fun e_ => (Kd.R_ne HO169.out BK148.out (by decide)) e_) hs_)); have n1_ := Aside0.mk (Kd.R_mono (ok' := fun k_ => (w.heap.size ≤ k_) ∧ some k_ ≠ (.slice Ao31 y161.length co31 : Value).ownBlock ∧ some k_ ≠ (.slice Ao39 y170.length co39 : Value).ownBlock) (Kd.R_keptB ((Kd.R_apart' HO151.out (Kd.R_typed HO169.out) (by decide))) hkp (fun k_ hk_ hs_ => (hk_.2) hs_)) (fun k_ hk_ => ⟨hk_.1.1.1.1, hk_.1.1.1.2, hk_.1.1.2⟩)); have n2_ := Aside0.mk (Kd.R_mono (ok' := fun k_ => (w.heap.size ≤ k_) ∧ some k_ ≠ (.slice Ao20 y149.length co20 : Value).ownBlock ∧ some k_ ≠ (.slice Ao39 y170.length co39 : Value).ownBlock) (Kd.R_keptB ((Kd.R_apart' HO163.out (Kd.R_typed HO169.out) (by decide))) hkp (fun k_ hk_ hs_ => (hk_.2) hs_)) (fun k_ hk_ => ⟨hk_.1.1.1.1, hk_.1.1.1.2, hk_.1.1.2⟩)); have n3_ := Aside0.mk (Kd.R_mono (ok' := fun k_ => (w.heap.size ≤ k_) ∧ some k_ ≠ (.slice Ao20 y149.length co20 : Value).ownBlock ∧ some k_ ≠ (.slice Ao31 y161.length co31 : Value).ownBlock) (Kd.R_keptB ((Kd.R_apart' HO172.out (Kd.R_typed HO169.out) (by decide))) hkp (fun k_ hk_ hs_ => (hk_.2) hs_)) (fun k_ hk_ => ⟨hk_.1.1.1.1.1, hk_.1.1.1.2, hk_.1.1.2⟩)); have n4_ := Aside0.mk (Kd.R_mono (ok' := fun k_ => (w.heap.size ≤ k_)) ho0 (fun k_ hk_ => Or.elim hk_ (fun hs_ => (HO169.out.1 k_ (hs_).symm)) (fun hn_ => (Nat.le_trans (below_size (by repeat (first | (with_reducible first | exact HB.out | apply below_alloc | apply pw_below_drewN | apply below_drew1 | refine below_set ?_ GE148.out) | exact HB.out))) hn_)))); have n5_ := Aside0.mk (hb); clear BK148; clear HO151; clear HO163; clear HO172; clear HB; clear HO169; have BK148 := n0_; have HO151 := n1_; have HO163 := n2_; have HO172 := n3_; have HO175 := n4_; have HB := n5_; clear n0_ n1_ n2_ n3_ n4_ n5_; (try clear hb); (try clear hkp); (try clear ho0); have hcz41_0 : w40.cell? ⟨gb148, 0, none⟩ = some (.int .i64 a0_0) := (blk_cell BK148.out 0).trans rfl; have hcz41_1 : w40.cell? ⟨gb148, 1, none⟩ = some (.int .i64 a0_1) := (blk_cell BK148.out 1).trans rfl; have hcz41_2 : w40.cell? ⟨gb148, 2, none⟩ = some (.int .i64 a0_2) := (blk_cell BK148.out 2).trans rfl; have hcz41_3 : w40.cell? ⟨gb148, 3, none⟩ = some (.string a0_3) := (blk_cell BK148.out 3).trans rfl; have hcz41_4 : w40.cell? ⟨gb148, 4, none⟩ = some (.string a0_4) := (blk_cell BK148.out 4).trans rfl; have hcz41_5 : w40.cell? ⟨gb148, 5, none⟩ = some (.slice A0_5 l0_5.length c0_5) := (blk_cell BK148.out 5).trans rfl; have hcz41_6 : w40.cell? ⟨gb148, 6, none⟩ = some (.slice A0_6 l0_6.length c0_6) := (blk_cell BK148.out 6).trans rfl; have hfz41_0 := blk_frozen BK148.out 0; have hfz41_1 := blk_frozen BK148.out 1; have hfz41_2 := blk_frozen BK148.out 2; have hfz41_3 := blk_frozen BK148.out 3; have hfz41_4 := blk_frozen BK148.out 4; have hfz41_5 := blk_frozen BK148.out 5; have hfz41_6 := blk_frozen BK148.out 6))
        go_loopg [4, 60] kj1 (fun kq v4 v60 w' => ∃ (x4_2 : List Int) (x60_2 : Int), v60 = .int .i64 x60_2 ∧ Aside0 (entry_Encode.l0 kq x4_2 l0_6 (l0_6.length : Int) x60_2 = some (r1, r2)) ∧ Aside0 (kq ≤ kj1) ∧ Aside0 (Kd.R (Kd.int .u8) 5 w' w.heap.size (fun k_ => (w.heap.size ≤ k_)) v4 x4_2) ∧ Aside0 (w'.heap[gb148]? = some (.cells #[.int .i64 a0_0, .int .i64 a0_1, .int .i64 a0_2, .string a0_3, .string a0_4, (.slice A0_5 l0_5.length c0_5), (.slice A0_6 l0_6.length c0_6)] 50 (0, 0))) ∧ Aside0 (Below w.heap.size w w'))
        case atStart => exact ⟨(t173), (0), (by first | rfl | (simp; done) | (simp [*]; done)), H', ⟨Nat.le_refl _⟩, ⟨by (with_reducible repeat (first | apply Kd.R_alloc | apply Kd.R_drewN | apply Kd.R_drew)); exact HO175.out⟩, ⟨by (with_reducible repeat (first | refine blk_drewN ?_ _ | refine blk_drew ?_ | refine blk_alloc ?_ _)); exact BK148.out⟩, ⟨by repeat (first | (with_reducible first | exact HB.out | apply below_alloc | apply pw_below_drewN | apply below_drew1 | refine below_set ?_ GE148.out) | exact HB.out)⟩⟩
        case round =>
          clear H'
          try clear c1
          try clear c2
          try clear p2
          try clear c4
          try clear c5
          try clear c5b0
          try clear c7
          try clear c7b0
          try clear c7b1
          try clear c10
          try clear c27
          try clear hcz17_0
          try clear hcz17_1
          try clear hcz17_2
          try clear hcz17_3
          try clear hcz17_4
          try clear hcz17_5
          try clear hcz17_6
          try clear hcz35_0
          try clear hcz35_1
          try clear hcz35_2
          try clear hcz35_3
          try clear hcz35_4
          try clear hcz35_5
          try clear hcz35_6
          try clear hcz41_0
          try clear hcz41_1
          try clear hcz41_2
          try clear hcz41_3
          try clear hcz41_4
          try clear hcz41_5
          try clear hcz41_6
          try clear hcz6_0
          try clear hcz6_1
          try clear hcz6_2
          try clear hcz6_3
          try clear hcz6_4
          try clear hcz6_5
          try clear hcz6_6
          try clear hcz8_0
          try clear hcz8_1
          try clear hcz8_2
          try clear hcz8_3
          try clear hcz8_4
          try clear hcz8_5
          try clear hcz8_6
          try clear hcz9_0
          try clear hcz9_1
          try clear hcz9_2
          try clear hcz9_3
          try clear hcz9_4
          try clear hcz9_5
          try clear hcz9_6
          try clear hfz17_0
          try clear hfz17_1
          try clear hfz17_2
          try clear hfz17_3
          try clear hfz17_4
          try clear hfz17_5
          try clear hfz17_6
          try clear hfz35_0
          try clear hfz35_1
          try clear hfz35_2
          try clear hfz35_3
          try clear hfz35_4
          try clear hfz35_5
          try clear hfz35_6
          try clear hfz41_0
          try clear hfz41_1
          try clear hfz41_2
          try clear hfz41_3
          try clear hfz41_4
          try clear hfz41_5
          try clear hfz41_6
          try clear hfz6_0
          try clear hfz6_1
          try clear hfz6_2
          try clear hfz6_3
          try clear hfz6_4
          try clear hfz6_5
          try clear hfz6_6
          try clear hfz8_0
          try clear hfz8_1
          try clear hfz8_2
          try clear hfz8_3
          try clear hfz8_4
          try clear hfz8_5
          try clear hfz8_6
          try clear hfz9_0
          try clear hfz9_1
          try clear hfz9_2
          try clear hfz9_3
          try clear hfz9_4
          try clear hfz9_5
          try clear hfz9_6
          try clear p2
          obtain ⟨x4_2, x60_2, rfl, HA, HK2, HO_4, BK148, HB⟩ := hrel
          cases gk with
          | zero => exact absurd HA.out (by simp [entry_Encode.l0])
          | succ k2 =>
            have H := HA.out
            clear HA
            simp only [entry_Encode.l0] at H
            by_cases c42 : x60_2 < (l0_6.length : Int)
            · rw [if_pos c42] at H
              have c42b0 : decide (x60_2 < (l0_6.length : Int)) = true := decide_eq_true c42
              clear c42
              by_cases c43 : 0 ≤ x60_2
              · rw [if_pos c43] at H
                have c43b0 : decide (0 ≤ x60_2) = true := decide_eq_true c43
                clear c43
                by_cases c44 : x60_2 < (l0_6.length : Int)
                · rw [if_pos c44] at H
                  have c44b0 : decide (x60_2 < (l0_6.length : Int)) = true := decide_eq_true c44
                  clear c44
                  obtain ⟨y178, hy178⟩ : ∃ y_ : List Int, y_ = (([(rd_T87 l0_6 x60_2).f0, (rd_T87 l0_6 x60_2).f1] : List Int)) := ⟨_, rfl⟩
                  replace H : ((entry_ints.f k2 x4_2 y178).bind fun t181 => (entry_Encode.l0 k2 t181 l0_6 (l0_6.length : Int) (wrap64 (x60_2 + 1)))) = some (r1, r2) := by first | (rw [hy178]; with_reducible exact H) | (have H2_ := (Option.bind_some _ _).symm.trans H; rw [hy178]; with_reducible exact H2_) | (have H2_ := (Option.bind_some _ _).symm.trans H; with_reducible exact H2_) | with_reducible exact H | (rw [hy178]; exact H) | exact H
                  have Ny178 := Aside0.mk hy178
                  clear hy178
                  replace H := Option.bind_eq_some_iff.mp H
                  obtain ⟨t181, A450, H⟩ := H
                  replace H : (entry_Encode.l0 k2 t181 l0_6 (l0_6.length : Int) (wrap64 (x60_2 + 1))) = some (r1, r2) := H
                  have A45 := Aside0.mk A450
                  clear A450
                  have H' := Aside0.mk H
                  clear H
                  have p176 : 0 ≤ (x60_2 : Int) := of_decide_eq_true (by first | (with_reducible assumption) | assumption)
                  have q176 : x60_2 < (l0_6.length : Int) := of_decide_eq_true (by first | (with_reducible assumption) | assumption)
                  obtain ⟨ad176, e176, hx176_0, hx176_1⟩ := at_T87 HR0_6.out x60_2 p176 q176
                  cases e176
                  replace hx176_0 := (HB.out.cell (World.block_lt_of_cell? w _ hx176_0)).trans hx176_0
                  replace hx176_1 := (HB.out.cell (World.block_lt_of_cell? w _ hx176_1)).trans hx176_1
                  replace p176 := eq_true p176
                  replace q176 := eq_true q176
                  go_wp2_with (first | ((with_reducible refine gate_dst (N := 6) rfl ?_); (try (refine gate_guard (by rfl) ?_; dsimp only)); refine box_event ?hg (N := 6) ?hd (cs := #[.int .i64 0, .int .i64 0]) (t := 87) ?hr ?_; (case hd => rfl); (case hg => rfl); (case hr => first | (go_simp; done) | (go_simp; rfl)); intro gb177 hg w46 hbox hb; have n0_ := Aside0.mk (Kd.R_below (by (with_reducible repeat (first | apply Kd.R_alloc | apply Kd.R_drewN | apply Kd.R_drew)); exact HO_4.out) hb); have n1_ := Aside0.mk (blk_below (g := gb148) (o := .cells #[.int .i64 a0_0, .int .i64 a0_1, .int .i64 a0_2, .string a0_3, .string a0_4, .slice A0_5 l0_5.length c0_5, .slice (some ad176) l0_6.length c0_6] 50 (0, 0)) (by (with_reducible repeat (first | refine blk_drewN ?_ _ | refine blk_drew ?_ | refine blk_alloc ?_ _)); exact BK148.out) hb); have n2_ := Aside0.mk (below_step (by repeat (first | (with_reducible first | exact HB.out | apply below_alloc | apply pw_below_drewN | apply below_drew1 | refine below_set ?_ GE148.out) | exact HB.out)) hb); have n3_ := Aside0.mk (hbox); have n4_ := Aside0.mk ((by rw [hg]; exact (below_size (by repeat (first | (with_reducible first | exact HB.out | apply below_alloc | apply pw_below_drewN | apply below_drew1 | refine below_set ?_ GE148.out) | exact HB.out))) : w.heap.size ≤ gb177)); have n5_ := Aside0.mk ((by rw [hg]; exact (below_size (by repeat (first | (with_reducible first | exact HB.out | apply below_alloc | apply pw_below_drewN | apply below_drew1 | refine below_set ?_ GE148.out) | exact HB.out))) : w.heap.size ≤ gb177)); have n6_ := Aside0.mk ((by rw [hg]; exact Nat.ne_of_lt (blk_lt (g := gb148) (o := .cells #[.int .i64 a0_0, .int .i64 a0_1, .int .i64 a0_2, .string a0_3, .string a0_4, .slice A0_5 l0_5.length c0_5, .slice (some ad176) l0_6.length c0_6] 50 (0, 0)) (by (with_reducible repeat (first | refine blk_drewN ?_ _ | refine blk_drew ?_ | refine blk_alloc ?_ _)); exact BK148.out)) : gb148 ≠ gb177)); have n7_ := Aside0.mk ((by rw [hg]; exact Nat.ne_of_gt (blk_lt (g := gb148) (o := .cells #[.int .i64 a0_0, .int .i64 a0_1, .int .i64 a0_2, .string a0_3, .string a0_4, .slice A0_5 l0_5.length c0_5, .slice (some ad176) l0_6.length c0_6] 50 (0, 0)) (by (with_reducible repeat (first | refine blk_drewN ?_ _ | refine blk_drew ?_ | refine blk_alloc ?_ _)); exact BK148.out)) : gb177 ≠ gb148)); clear HO_4; clear BK148; clear HB; have HO_4 := n0_; have BK148 := n1_; have HB := n2_; have BK177 := n3_; have GW177 := n4_; have GE177 := n5_; have NB148_177 := n6_; have NB177_148 := n7_; clear n0_ n1_ n2_ n3_ n4_ n5_ n6_ n7_; clear hb hbox hg; have hnb47 := NB177_148.out; have hnc47 := NB148_177.out; have hcz48_0 : w46.cell? ⟨gb177, 0, none⟩ = some (.int .i64 0) := (blk_cell BK177.out 0).trans rfl; have hcz48_1 : w46.cell? ⟨gb177, 1, none⟩ = some (.int .i64 0) := (blk_cell BK177.out 1).trans rfl; have hfz48_0 := blk_frozen BK177.out 0; have hfz48_1 := blk_frozen BK177.out 1) | ((with_reducible refine gate_dst (N := 69) rfl ?_); (try (refine gate_guard (by rfl) ?_; dsimp only)); refine Kd.R_lit (Kd.int .i64) _ 3 ?hg (N := 69) ?hd (xs := ([(rd_T87 l0_6 x60_2).f0, (rd_T87 l0_6 x60_2).f1] : List Int)) (inner := [.int .i64 ((rd_T87 l0_6 x60_2).f0), .int .i64 ((rd_T87 l0_6 x60_2).f1)]) (ok := fun _ => True) (okp := fun _ => True) ?hr ?hp (fun _ hk => hk) trivial (Below.refl _ _) (Nat.le_refl _) (by simp) ?_; (case hd => rfl); (case hg => rfl); (case hr => first | (go_simp; done) | (go_simp; rfl)); (case hp => exact (Reps.one (show Kd.M (Kd.int .i64) _ _ _ ((rd_T87 l0_6 x60_2).f0) [.int .i64 ((rd_T87 l0_6 x60_2).f0)] from rfl) (Reps.one (show Kd.M (Kd.int .i64) _ _ _ ((rd_T87 l0_6 x60_2).f1) [.int .i64 ((rd_T87 l0_6 x60_2).f1)] from rfl) (Reps.none _ _)))); intro v179 w49 ho50 hb hg_ hnew_; clear hg_ hnew_; (first | rw [← Ny178.out] at ho50 | (simp only [Int.reduceToNat] at ho50; rw [← Ny178.out] at ho50)); have n0_ := Aside0.mk (Kd.R_below (by (with_reducible repeat (first | apply Kd.R_alloc | apply Kd.R_drewN | apply Kd.R_drew)); exact (Kd.R_mono (Kd.R_far (p := ⟨gb177, 1, none⟩) (Kd.R_far (p := ⟨gb177, 0, none⟩) (Kd.R_types HO_4.out BK177.out (by decide)) (fun _ hk => hk.2) (.int .i64 ((rd_T87 l0_6 x60_2).f0))) (fun _ hk => hk.2) (.int .i64 ((rd_T87 l0_6 x60_2).f1))) (fun _ h_ => h_.1))) hb); have n1_ := Aside0.mk (Kd.R_lower (Kd.R_newM (M := fun k_ => (w.heap.size ≤ k_)) ho50 (below_size (by repeat (first | (with_reducible first | exact HB.out | apply below_alloc | apply pw_below_drewN | apply below_drew1 | refine below_set ?_ GE148.out | refine below_set ?_ GE177.out) | exact HB.out))) (fun k_ h_ => h_)) (below_size (by repeat (first | (with_reducible first | exact HB.out | apply below_alloc | apply pw_below_drewN | apply below_drew1 | refine below_set ?_ GE148.out | refine below_set ?_ GE177.out) | exact HB.out)))); have n2_ := Aside0.mk (blk_below (g := gb148) (o := .cells #[.int .i64 a0_0, .int .i64 a0_1, .int .i64 a0_2, .string a0_3, .string a0_4, .slice A0_5 l0_5.length c0_5, .slice (some ad176) l0_6.length c0_6] 50 (0, 0)) (by (with_reducible repeat (first | refine blk_drewN ?_ _ | refine blk_drew ?_ | refine blk_alloc ?_ _)); refine blk_far ?_ NB148_177.out _; (with_reducible repeat (first | refine blk_drewN ?_ _ | refine blk_drew ?_ | refine blk_alloc ?_ _)); refine blk_far ?_ NB148_177.out _; (with_reducible repeat (first | refine blk_drewN ?_ _ | refine blk_drew ?_ | refine blk_alloc ?_ _)); exact BK148.out) hb); have n3_ := Aside0.mk (blk_below (g := gb177) (o := .cells #[.int .i64 ((rd_T87 l0_6 x60_2).f0), .int .i64 ((rd_T87 l0_6 x60_2).f1)] 87 (0, 0)) (by (with_reducible repeat (first | refine blk_drewN ?_ _ | refine blk_drew ?_ | refine blk_alloc ?_ _)); refine blk_put (cs := #[.int .i64 ((rd_T87 l0_6 x60_2).f0), .int .i64 0]) ?_ 1 _ rfl; (with_reducible repeat (first | refine blk_drewN ?_ _ | refine blk_drew ?_ | refine blk_alloc ?_ _)); refine blk_put (cs := #[.int .i64 0, .int .i64 0]) ?_ 0 _ rfl; (with_reducible repeat (first | refine blk_drewN ?_ _ | refine blk_drew ?_ | refine blk_alloc ?_ _)); exact BK177.out) hb); have n4_ := Aside0.mk (below_step (by repeat (first | (with_reducible first | exact HB.out | apply below_alloc | apply pw_below_drewN | apply below_drew1 | refine below_set ?_ GE148.out | refine below_set ?_ GE177.out) | exact HB.out)) hb); clear HO_4; clear BK148; clear BK177; clear HB; have HO_4 := n0_; have HO180 := n1_; have BK148 := n2_; have BK177 := n3_; have HB := n4_; clear n0_ n1_ n2_ n3_ n4_; clear hb ho50; obtain ⟨Ao51, co51, eo51⟩ := Kd.R_slice HO_4.out; subst eo51; obtain ⟨Ao52, co52, eo52⟩ := Kd.R_slice HO180.out; subst eo52) | ((with_reducible refine gate_callee (f := 44) rfl ?_); refine goesL_ (some 70) rfl rfl Try.func44 (by kernel_rfl) rfl #[.slice Ao51 x4_2.length co51, .slice Ao52 y178.length co52] rfl (by (try simp only [List.map_toArray, List.map_cons, List.map_nil]); first | done | rfl | (simp only [List.length_drop, List.length_take]; rfl)) ?_; (with_reducible refine (entry_ints.calls k2 (fun k_ => some k_ = (.slice Ao51 x4_2.length co51 : Value).ownBlock) (.slice Ao51 x4_2.length co51) x4_2 _ _ y178 t181 w _ ?side1 ?side2 ?side3 ?side4 A45.out).mono ?_); (case side1 => repeat (first | (with_reducible first | exact HB.out | apply below_alloc | apply pw_below_drewN | apply below_drew1 | refine below_set ?_ GE148.out | refine below_set ?_ GE177.out) | exact HB.out)); (case side2 => exact Kd.R_tight rfl HO_4.out); (case side3 => exact Kd.C_kept_own ((Kd.R_apart' HO180.out (Kd.R_typed HO_4.out) (by decide))) (fun k_ hk_ hs_ => (hk_.2) hs_)); (case side4 => exact (Kd.R_reads' HO180.out).2.1); rintro e w53 ⟨v182, rfl, ho0, hb, hkp⟩; refine ⟨_, rfl, ?_⟩; have n0_ := Aside0.mk (blk_kept (by (with_reducible repeat (first | refine blk_drewN ?_ _ | refine blk_drew ?_ | refine blk_alloc ?_ _)); exact BK148.out) hkp (fun hs_ => (fun e_ => (Kd.R_ne HO_4.out BK148.out (by decide)) e_) hs_)); have n1_ := Aside0.mk (blk_kept (by (with_reducible repeat (first | refine blk_drewN ?_ _ | refine blk_drew ?_ | refine blk_alloc ?_ _)); exact BK177.out) hkp (fun hs_ => (fun e_ => (Kd.R_ne HO_4.out BK177.out (by decide)) e_) hs_)); have n2_ := Aside0.mk (Kd.R_mono (ok' := fun k_ => (w.heap.size ≤ k_)) (Kd.R_keptB ((Kd.R_apart' HO180.out (Kd.R_typed HO_4.out) (by decide))) hkp (fun k_ hk_ hs_ => (hk_.2) hs_)) (fun k_ hk_ => hk_.1.1.1)); have n3_ := Aside0.mk (Kd.R_mono (ok' := fun k_ => (w.heap.size ≤ k_)) ho0 (fun k_ hk_ => Or.elim hk_ (fun hs_ => (HO_4.out.1 k_ (hs_).symm)) (fun hn_ => (Nat.le_trans (below_size (by repeat (first | (with_reducible first | exact HB.out | apply below_alloc | apply pw_below_drewN | apply below_drew1 | refine below_set ?_ GE148.out | refine below_set ?_ GE177.out) | exact HB.out))) hn_)))); have n4_ := Aside0.mk (hb); clear BK148; clear BK177; clear HO180; clear HB; clear HO_4; have BK148 := n0_; have BK177 := n1_; have HO180 := n2_; have HO183 := n3_; have HB := n4_; clear n0_ n1_ n2_ n3_ n4_; (try clear hb); (try clear hkp); (try clear ho0)))
                  go_roundg k2
                  case measure => have := HJ1.out; have := HK2.out; omega
                  case rel => exact ⟨(t181), (wrap64 (x60_2 + 1)), (by first | rfl | (simp; done) | (simp [*]; done)), H', ⟨by have := HJ1.out; have := HK2.out; omega⟩, ⟨by (with_reducible repeat (first | apply Kd.R_alloc | apply Kd.R_drewN | apply Kd.R_drew)); exact HO183.out⟩, ⟨by (with_reducible repeat (first | refine blk_drewN ?_ _ | refine blk_drew ?_ | refine blk_alloc ?_ _)); exact BK148.out⟩, ⟨by repeat (first | (with_reducible first | exact HB.out | apply below_alloc | apply pw_below_drewN | apply below_drew1 | refine below_set ?_ GE148.out | refine below_set ?_ GE177.out) | exact HB.out)⟩⟩
                · rw [if_neg c44] at H
                  exact absurd H (by simp)
              · rw [if_neg c43] at H
                exact absurd H (by simp)
            · rw [if_neg c42] at H
              have c42b0 : decide (x60_2 < (l0_6.length : Int)) = false := decide_eq_false c42
              clear c42
              replace H := Option.bind_eq_some_iff.mp H
              obtain ⟨t184, A540, H⟩ := H
              replace H : (some (t184, 0)) = some (r1, r2) := H
              have A54 := Aside0.mk A540
              clear A540
              simp only [Option.some.injEq, Prod.mk.injEq] at H
              obtain ⟨rfl, rfl⟩ := H
              obtain ⟨Ao55, co55, eo55⟩ := Kd.R_slice HO_4.out
              subst eo55
              go_wp2_with (first | ((with_reducible refine gate_callee (f := 39) rfl ?_); refine goesL_ (some 73) rfl rfl Try.func39 (by kernel_rfl) rfl #[.slice Ao55 x4_2.length co55] rfl (by (try simp only [List.map_toArray, List.map_cons, List.map_nil]); first | done | rfl | (simp only [List.length_drop, List.length_take]; rfl)) ?_; (with_reducible refine (slices_Clip_byte.calls (fun k_ => some k_ = (.slice Ao55 x4_2.length co55 : Value).ownBlock) _ _ x4_2 t184 _ ?side1 A54.out).mono ?_); (case side1 => exact Kd.R_V (Kd.R_tight rfl (Kd.R_types (HO_4.out) BK148.out (by decide)))); rintro e w56 ⟨v185, rfl, ho0, hb⟩; refine ⟨_, rfl, ?_⟩; have n0_ := Aside0.mk (Kd.R_below (by (with_reducible repeat (first | apply Kd.R_alloc | apply Kd.R_drewN | apply Kd.R_drew)); exact HO_4.out) hb); have n1_ := Aside0.mk (Kd.V_lower (Kd.V_mono (ok' := fun k_ => (w.heap.size ≤ k_) ∧ k_ ≠ gb148) ho0 (fun k_ hk_ => ⟨Or.elim hk_ (fun hs_ => ((Kd.R_types (HO_4.out) BK148.out (by decide)).1 k_ hs_.symm).1) (fun hn_ => (Nat.le_trans (below_size (by repeat (first | (with_reducible first | exact HB.out | apply below_alloc | apply pw_below_drewN | apply below_drew1 | refine below_set ?_ GE148.out) | exact HB.out))) hn_)), Or.elim hk_ (fun hs_ => ((Kd.R_types (HO_4.out) BK148.out (by decide)).1 k_ hs_.symm).2) (fun hn_ => (Kd.freshB (g := gb148) (o := .cells #[.int .i64 a0_0, .int .i64 a0_1, .int .i64 a0_2, .string a0_3, .string a0_4, .slice A0_5 l0_5.length c0_5, .slice A0_6 l0_6.length c0_6] 50 (0, 0)) (by (with_reducible repeat (first | refine blk_drewN ?_ _ | refine blk_drew ?_ | refine blk_alloc ?_ _)); exact BK148.out) k_ hn_))⟩)) (below_size (by repeat (first | (with_reducible first | exact HB.out | apply below_alloc | apply pw_below_drewN | apply below_drew1 | refine below_set ?_ GE148.out) | exact HB.out)))); have n2_ := Aside0.mk (blk_below (g := gb148) (o := .cells #[.int .i64 a0_0, .int .i64 a0_1, .int .i64 a0_2, .string a0_3, .string a0_4, .slice A0_5 l0_5.length c0_5, .slice A0_6 l0_6.length c0_6] 50 (0, 0)) (by (with_reducible repeat (first | refine blk_drewN ?_ _ | refine blk_drew ?_ | refine blk_alloc ?_ _)); exact BK148.out) hb); have n3_ := Aside0.mk (below_step (by repeat (first | (with_reducible first | exact HB.out | apply below_alloc | apply pw_below_drewN | apply below_drew1 | refine below_set ?_ GE148.out) | exact HB.out)) hb); clear HO_4; clear BK148; clear HB; have HO_4 := n0_; have HO186 := n1_; have BK148 := n2_; have HB := n3_; clear n0_ n1_ n2_ n3_; (try clear hb); (try clear hb2); (try clear hk); (try clear hi); (try clear ho0)))
              go_ret2
              exact ⟨_, by first | rfl | (simp [errW_none, errW_some] <;> rfl) | (simp [*, errW_none, errW_some] <;> rfl), by (with_reducible repeat (first | apply Kd.V_alloc | apply Kd.V_drewN | apply Kd.V_drew)); exact Kd.V_mono HO186.out (fun _ hk => hk.1), by repeat (first | (with_reducible first | exact HB.out | apply below_alloc | apply pw_below_drewN | apply below_drew1 | refine below_set ?_ GE148.out) | exact HB.out)⟩

end Go.Proofs.Ytjmkpcnekghmhaa.PAll
end
