/- Words, plain functions and contracts of the functions that the law of this claim reaches; no conditions. -/
import Derived.Test.YtkhfgflcanmefaaBOrderQueues1
section
namespace Go.Proofs.Ytkhfgflcanmefaa.PAll
open Go.RowKit Go.Proofs.YtkhfgflcanmefaaW.PrintWords Go.Proofs.YtkhfgflcanmefaaW.PrintLast Go.Proofs.YtkhfgflcanmefaaW.PrintMore
attribute [local go_sem] max2_int min2_int max_two min_two max_three min_three max_four min_four   -- for this text's walks alone
set_option linter.unusedVariables false
set_option linter.unusedSimpArgs false

def prebendlaw15_few.f (l0 : List (S32)) : Option ((List (S32))) := if (l0.length : Int) > 40 then (if 40 ≤ (l0.length : Int) then (some (l0.take 40)) else (none)) else (some l0)
set_option maxHeartbeats 8000000 in
set_option maxRecDepth 100000 in
theorem prebendlaw15_few.calls (P0_ : Nat → Prop) (A0 : Option Addr) (c0 : Nat) (l0 : List (S32)) (r : List (S32)) (w : World) (hs0 : Kd.V k32 32 w w.heap.size (fun k_ => P0_ k_) (.slice A0 l0.length c0) l0) (h : prebendlaw15_few.f l0 = some r) :
    Calls Try.prog 9 #[.slice A0 l0.length c0] w fun e w' => ∃ v0_ : Value, e = .returned (v0_) ∧ Kd.V k32 32 w' w.heap.size (fun k_ => (P0_ k_ ∨ w.heap.size ≤ k_)) v0_ r ∧ Below w.heap.size w w' := by
  have HO0 := Aside0.mk (show Kd.V k32 32 w w.heap.size (fun k_ => (P0_ k_ ∨ w.heap.size ≤ k_)) (.slice A0 l0.length c0) l0 from Kd.V_mono hs0 (fun k_ hk => .inl hk))
  have HB := Aside0.mk (Below.refl w.heap.size w)
  have H : (if (l0.length : Int) > 40 then (if 40 ≤ (l0.length : Int) then (some (l0.take 40)) else (none)) else (some l0)) = some r := h
  clear h
  by_cases c2 : (l0.length : Int) > 40
  · rw [if_pos c2] at H
    have c2b0 : decide (40 < (l0.length : Int)) = true := decide_eq_true c2
    have c2b1 : decide (40 < l0.length) = true := decide_eq_true (by omega)
    clear c2
    by_cases c3 : 40 ≤ (l0.length : Int)
    · rw [if_pos c3] at H
      have c3b0 := eq_true c3
      have c3b1 : decide (40 ≤ (l0.length : Int)) = true := decide_eq_true c3
      clear c3
      obtain ⟨y101, hy101⟩ : ∃ y_ : List (S32), y_ = (l0.take 40) := ⟨_, rfl⟩
      replace H : (some y101) = some r := by first | (rw [hy101]; with_reducible exact H) | (have H2_ := (Option.bind_some _ _).symm.trans H; rw [hy101]; with_reducible exact H2_) | (have H2_ := (Option.bind_some _ _).symm.trans H; with_reducible exact H2_) | with_reducible exact H | (rw [hy101]; exact H) | exact H
      have Ny101 := Aside0.mk hy101
      clear hy101
      obtain rfl := Option.some.inj H
      have q4 : (40 : Int) ≤ ((l0.length : Int) : Int) := of_decide_eq_true (by first | (with_reducible assumption) | assumption)
      obtain ⟨i04, hi04, _, hsz4, _⟩ := info_parts info32
      have hroom4 : l0.length ≤ c0 := (Kd.V_reads' HO0.out).2.1
      have hC4 : Kd.F k32 _ _ A0 l0.length l0 := (Kd.V_at (base := w.heap.size) HO0.out).2.2
      have hcut4 := cut_to (P := Try.prog) 22 32 .i64 Try.underlying22 hi04 A0 l0.length c0 40 (by omega) q4 hroom4
      have hr4 := Kd.F_take (m := 40) hC4 (by omega)
      have hy4 : y101.length = (40 : Int).toNat := (by rw [Ny101.out, List.length_take]; omega)
      rw [← Ny101.out] at hr4
      rw [← hy4] at hcut4
      have HO105 := Aside0.mk (show Kd.V k32 32 _ w.heap.size _ (.slice A0 y101.length c0) y101 from Kd.V_mk (by omega) hr4)
      have HC105 := Aside0.mk (show y101.length ≤ c0 from by omega)
      clear hr4 hC4 hroom4 hi04 hsz4
      have KY4 := Aside0.mk hy4
      clear hy4
      replace q4 := eq_true q4
      go_enter Try.func9, Try.ntmps9
      go_wp2
      go_ret
      exact ⟨_, by first | rfl | (simp [errW_none, errW_some] <;> rfl) | (simp [*, errW_none, errW_some] <;> rfl), by (with_reducible repeat (first | apply Kd.V_alloc | apply Kd.V_drewN | apply Kd.V_drew)); exact HO105.out, by repeat (first | (with_reducible first | exact HB.out | apply below_alloc | apply pw_below_drewN | apply below_drew1) | exact HB.out)⟩
    · rw [if_neg c3] at H
      exact absurd H (by simp)
  · rw [if_neg c2] at H
    have c2b0 : decide (40 < (l0.length : Int)) = false := decide_eq_false c2
    have c2b1 : decide (40 < l0.length) = false := decide_eq_false (by omega)
    clear c2
    obtain rfl := Option.some.inj H
    go_enter Try.func9, Try.ntmps9
    go_wp2
    go_ret
    exact ⟨_, by first | rfl | (simp [errW_none, errW_some] <;> rfl) | (simp [*, errW_none, errW_some] <;> rfl), by (with_reducible repeat (first | apply Kd.V_alloc | apply Kd.V_drewN | apply Kd.V_drew)); exact HO0.out, by repeat (first | (with_reducible first | exact HB.out | apply below_alloc | apply pw_below_drewN | apply below_drew1) | exact HB.out)⟩

end Go.Proofs.Ytkhfgflcanmefaa.PAll
end
section
namespace Go.Proofs.Ytkhfgflcanmefaa.PAll
open Go.RowKit Go.Proofs.YtkhfgflcanmefaaW.PrintWords Go.Proofs.YtkhfgflcanmefaaW.PrintLast Go.Proofs.YtkhfgflcanmefaaW.PrintMore
attribute [local go_sem] max2_int min2_int max_two min_two max_three min_three max_four min_four   -- for this text's walks alone
set_option linter.unusedVariables false
set_option linter.unusedSimpArgs false

def Plan (is : List (Nat × Nat)) (p : Prop) : Prop := p
theorem plan_ (is : List (Nat × Nat)) {p : Prop} (h : Plan is p) : p := h
theorem planEnd_ {p : Prop} (h : p) : Plan [] p := h
section
variable {P : Program} {ops : Array Oper} {Q : Exit → Act → World → Prop} {md : Region.Mode} {S : World → Prop} {ds : List Nat} {i N : Nat} {is : List (Nat × Nat)} {oi : Oper} {v : Value} {fuel : Nat} {l : Array Bool} {a : Act} {w : World}
theorem planP_ (hi : ops[i]? = some oi) (hN : oi.dst = some N) (hc : anyB md ops l (l.setIfInBounds i true) i = true) (hQ : ∀ c a w, Q (.panic c) (a.put oi.dst v) w → Q (.panic c) a w) (hy : Yields P ops oi v a) {a' : Act} (ha : a.put (some N) v = a')
    (h : Plan is (wpAnyLast P md ops Q S ds fuel (l.setIfInBounds i true) a' w)) : Plan ((i, N) :: is) (wpAnyLast P md ops Q S ds (fuel + 1) l a w) := pure_ _ hi hN hc hQ hy ha h
theorem planT_ (hi : ops[i]? = some oi) (hN : oi.dst = some N) (hc : takeB md ops ds l (l.setIfInBounds i true) i = true) (hQ : ∀ c a w, Q (.panic c) (a.put oi.dst v) w → Q (.panic c) a w) (hy : YieldsIf P ops S oi v a) (hS : S w) {a' : Act} (ha : a.put (some N) v = a')
    (h : Plan is (wpAnyLast P md ops Q S ds fuel (l.setIfInBounds i true) a' w)) : Plan ((i, N) :: is) (wpAnyLast P md ops Q S ds (fuel + 1) l a w) := take_ _ hi hN hc hQ hy hS ha h
end

theorem mB {p q : Prop} (h : p) (f : p → q := by intro h; repeat (first | (with_reducible first | exact h | apply below_alloc | apply pw_below_drewN | apply below_drew1) | exact h)) : q := f h
theorem oda {p : Prop} [Decidable p] (h : decide p = true := by first | (with_reducible assumption) | assumption) : p := of_decide_eq_true h
theorem mBs {p q : Prop} (h : p) (f : p → q := by intro h; repeat (first | (with_reducible first | exact h | apply below_alloc | apply pw_below_drewN | apply below_drew1 | refine below_set ?_ (Aside0.out (by assumption))) | exact h)) : q := f h
theorem mBK {p q : Prop} (h : p) (f : p → q := by intro h; (with_reducible repeat first | apply blk_drewN | apply blk_drew | apply blk_alloc); exact h) : q := f h
def prebendref15_ahead.f (l0 : List (S32)) (a1 : Int) (a2 : Int) : Option (Bool) := if 0 ≤ a1 then (if a1 < (l0.length : Int) then (if 0 ≤ a2 then (if a2 < (l0.length : Int) then (if ((rd_T32 l0 a1).f5) = ((rd_T32 l0 a2).f5) then (if ((rd_T32 l0 a1).f0) = ((rd_T32 l0 a2).f0) then (some (decide (a1 < a2))) else (some (decide (((rd_T32 l0 a1).f0) < ((rd_T32 l0 a2).f0))))) else (some (decide (((rd_T32 l0 a1).f5) > ((rd_T32 l0 a2).f5))))) else (none)) else (none)) else (none)) else (none)
def prebendref15_ahead.T1 : Bool × List (List Nat × List Nat) := (true, [([], []), ([], []), ([0, 1], [0, 1]), ([2], [2]), ([], []), ([], []), ([4, 5], [4, 5]), ([6], [6]), ([], []), ([], []), ([8, 3, 0, 1, 2, 3, 8, 9], [3, 8]), ([9, 7, 10, 0, 1, 2, 3, 4, 5, 6, 7, 8, 9, 10], [7, 9])])
def prebendref15_ahead.B1 : List Nat := [0, 0, 3, 7, 0, 0, 48, 112, 0, 0, 783, 2047]
theorem prebendref15_ahead.tab1 : rtab .any (opsOf Try.f31 1) = prebendref15_ahead.T1 := by kernel_rfl
theorem prebendref15_ahead.bits1 : waitsOk prebendref15_ahead.T1.2 prebendref15_ahead.B1 = true := by kernel_rfl
set_option maxHeartbeats 8000000 in
set_option maxRecDepth 100000 in
theorem prebendref15_ahead.calls (A0 : Option Addr) (c0 : Nat) (l0 : List (S32)) (a1 : Int) (a2 : Int) (r : Bool) (w : World) (hr0 : Kd.C k32 w A0 l0.length l0) (hc0 : l0.length ≤ c0) (h : prebendref15_ahead.f l0 a1 a2 = some r) :
  Calls Try.prog 31 #[.slice A0 l0.length c0, .int .i64 a1, .int .i64 a2] w fun e w' => e = .returned (.bool r) ∧ Below w.heap.size w w' := by
 have hu32 := Try.underlying32
 have HR0 := Aside0.mk hr0
 have HC0 := Aside0.mk hc0
 clear hr0; clear hc0
 have HB := Aside0.mk (Below.refl w.heap.size w)
 have H : (if 0 ≤ a1 then (if a1 < (l0.length : Int) then (if 0 ≤ a2 then (if a2 < (l0.length : Int) then (if ((rd_T32 l0 a1).f5) = ((rd_T32 l0 a2).f5) then (if ((rd_T32 l0 a1).f0) = ((rd_T32 l0 a2).f0) then (some (decide (a1 < a2))) else (some (decide (((rd_T32 l0 a1).f0) < ((rd_T32 l0 a2).f0))))) else (some (decide (((rd_T32 l0 a1).f5) > ((rd_T32 l0 a2).f5))))) else (none)) else (none)) else (none)) else (none)) = some r := h
 clear h
 by_cases c4 : 0 ≤ a1
 ·rw [if_pos c4] at H
  have c4b0 : decide (0 ≤ a1) = true := decide_eq_true c4
  clear c4
  by_cases c5 : a1 < (l0.length : Int)
  ·rw [if_pos c5] at H
   have c5b0 : decide (a1 < (l0.length : Int)) = true := decide_eq_true c5
   clear c5
   by_cases c6 : 0 ≤ a2
   ·rw [if_pos c6] at H
    have c6b0 : decide (0 ≤ a2) = true := decide_eq_true c6
    clear c6
    by_cases c7 : a2 < (l0.length : Int)
    ·rw [if_pos c7] at H
     have c7b0 : decide (a2 < (l0.length : Int)) = true := decide_eq_true c7
     clear c7
     go_enter Try.func31, Try.ntmps31
     try go_wp2
     have n0_ := Aside0.mk (below_drew1 HB.out)
     clear HB
     have HB := n0_
     clear n0_
     have p106 : 0 ≤ (a1 : Int) := oda
     have q106 : a1 < (l0.length : Int) := oda
     obtain ⟨ad106, A106_11, c106_11, e106, hx106_0, hx106_1, hx106_2, hx106_3, hx106_4, hx106_5, hx106_6, hx106_7, hx106_8, hx106_9, hx106_10, hx106_11, hl106_11, hi106_11⟩ := at_T32 HR0.out a1 p106 q106
     have hw106_11 := hx106_11
     have hw106_10 := hx106_10
     have hw106_9 := hx106_9
     have hw106_8 := hx106_8
     have hw106_7 := hx106_7
     have hw106_6 := hx106_6
     have hw106_5 := hx106_5
     have hw106_4 := hx106_4
     have hw106_3 := hx106_3
     have hw106_2 := hx106_2
     have hw106_1 := hx106_1
     have hw106_0 := hx106_0
     cases e106
     replace hx106_0 := (HB.out.cell (World.block_lt_of_cell? w _ hx106_0)).trans hx106_0
     replace hx106_1 := (HB.out.cell (World.block_lt_of_cell? w _ hx106_1)).trans hx106_1
     replace hx106_2 := (HB.out.cell (World.block_lt_of_cell? w _ hx106_2)).trans hx106_2
     replace hx106_3 := (HB.out.cell (World.block_lt_of_cell? w _ hx106_3)).trans hx106_3
     replace hx106_4 := (HB.out.cell (World.block_lt_of_cell? w _ hx106_4)).trans hx106_4
     replace hx106_5 := (HB.out.cell (World.block_lt_of_cell? w _ hx106_5)).trans hx106_5
     replace hx106_6 := (HB.out.cell (World.block_lt_of_cell? w _ hx106_6)).trans hx106_6
     replace hx106_7 := (HB.out.cell (World.block_lt_of_cell? w _ hx106_7)).trans hx106_7
     replace hx106_8 := (HB.out.cell (World.block_lt_of_cell? w _ hx106_8)).trans hx106_8
     replace hx106_9 := (HB.out.cell (World.block_lt_of_cell? w _ hx106_9)).trans hx106_9
     replace hx106_10 := (HB.out.cell (World.block_lt_of_cell? w _ hx106_10)).trans hx106_10
     replace hx106_11 := (HB.out.cell (World.block_lt_of_cell? w _ hx106_11)).trans hx106_11
     have HR106_11 := Aside0.mk hi106_11
     have HC106_11 := Aside0.mk hl106_11
     clear hi106_11; clear hl106_11
     replace p106 := eq_true p106
     replace q106 := eq_true q106
     have p107 : 0 ≤ (a2 : Int) := oda
     have q107 : a2 < (l0.length : Int) := oda
     obtain ⟨ad107, A107_11, c107_11, e107, hx107_0, hx107_1, hx107_2, hx107_3, hx107_4, hx107_5, hx107_6, hx107_7, hx107_8, hx107_9, hx107_10, hx107_11, hl107_11, hi107_11⟩ := at_T32 HR0.out a2 p107 q107
     have hw107_11 := hx107_11
     have hw107_10 := hx107_10
     have hw107_9 := hx107_9
     have hw107_8 := hx107_8
     have hw107_7 := hx107_7
     have hw107_6 := hx107_6
     have hw107_5 := hx107_5
     have hw107_4 := hx107_4
     have hw107_3 := hx107_3
     have hw107_2 := hx107_2
     have hw107_1 := hx107_1
     have hw107_0 := hx107_0
     obtain rfl : ad106 = ad107 := (by injection e107)
     replace hx107_0 := (HB.out.cell (World.block_lt_of_cell? w _ hx107_0)).trans hx107_0
     replace hx107_1 := (HB.out.cell (World.block_lt_of_cell? w _ hx107_1)).trans hx107_1
     replace hx107_2 := (HB.out.cell (World.block_lt_of_cell? w _ hx107_2)).trans hx107_2
     replace hx107_3 := (HB.out.cell (World.block_lt_of_cell? w _ hx107_3)).trans hx107_3
     replace hx107_4 := (HB.out.cell (World.block_lt_of_cell? w _ hx107_4)).trans hx107_4
     replace hx107_5 := (HB.out.cell (World.block_lt_of_cell? w _ hx107_5)).trans hx107_5
     replace hx107_6 := (HB.out.cell (World.block_lt_of_cell? w _ hx107_6)).trans hx107_6
     replace hx107_7 := (HB.out.cell (World.block_lt_of_cell? w _ hx107_7)).trans hx107_7
     replace hx107_8 := (HB.out.cell (World.block_lt_of_cell? w _ hx107_8)).trans hx107_8
     replace hx107_9 := (HB.out.cell (World.block_lt_of_cell? w _ hx107_9)).trans hx107_9
     replace hx107_10 := (HB.out.cell (World.block_lt_of_cell? w _ hx107_10)).trans hx107_10
     replace hx107_11 := (HB.out.cell (World.block_lt_of_cell? w _ hx107_11)).trans hx107_11
     have HR107_11 := Aside0.mk hi107_11
     have HC107_11 := Aside0.mk hl107_11
     clear hi107_11; clear hl107_11
     replace p107 := eq_true p107
     replace q107 := eq_true q107
     refine start_ (n := 12) (S := fun w' => w'.cell? (ad106.add ((a1).toNat * 12)) = some (.int .i64 ((rd_T32 l0 a1).f0)) ∧ w'.cell? ⟨(ad106.add ((a1).toNat * 12)).block, (ad106.add ((a1).toNat * 12)).off + 1, none⟩ = some (.int .i64 ((rd_T32 l0 a1).f1)) ∧ w'.cell? ⟨(ad106.add ((a1).toNat * 12)).block, (ad106.add ((a1).toNat * 12)).off + 2, none⟩ = some (.int .i64 ((rd_T32 l0 a1).f2)) ∧ w'.cell? ⟨(ad106.add ((a1).toNat * 12)).block, (ad106.add ((a1).toNat * 12)).off + 3, none⟩ = some (.int .i64 ((rd_T32 l0 a1).f3)) ∧ w'.cell? ⟨(ad106.add ((a1).toNat * 12)).block, (ad106.add ((a1).toNat * 12)).off + 4, none⟩ = some (.int .i64 ((rd_T32 l0 a1).f4)) ∧ w'.cell? ⟨(ad106.add ((a1).toNat * 12)).block, (ad106.add ((a1).toNat * 12)).off + 5, none⟩ = some (.int .i64 ((rd_T32 l0 a1).f5)) ∧ w'.cell? ⟨(ad106.add ((a1).toNat * 12)).block, (ad106.add ((a1).toNat * 12)).off + 6, none⟩ = some (.int .i64 ((rd_T32 l0 a1).f6)) ∧ w'.cell? ⟨(ad106.add ((a1).toNat * 12)).block, (ad106.add ((a1).toNat * 12)).off + 7, none⟩ = some (.int .i64 ((rd_T32 l0 a1).f7)) ∧ w'.cell? ⟨(ad106.add ((a1).toNat * 12)).block, (ad106.add ((a1).toNat * 12)).off + 8, none⟩ = some (.int .i64 ((rd_T32 l0 a1).f8)) ∧ w'.cell? ⟨(ad106.add ((a1).toNat * 12)).block, (ad106.add ((a1).toNat * 12)).off + 9, none⟩ = some (.int .i64 ((rd_T32 l0 a1).f9)) ∧ w'.cell? ⟨(ad106.add ((a1).toNat * 12)).block, (ad106.add ((a1).toNat * 12)).off + 10, none⟩ = some (.int .i64 ((rd_T32 l0 a1).f10)) ∧ w'.cell? ⟨(ad106.add ((a1).toNat * 12)).block, (ad106.add ((a1).toNat * 12)).off + 11, none⟩ = some (.slice A106_11 ((rd_T32 l0 a1).f11).length c106_11) ∧ w'.cell? (ad106.add ((a2).toNat * 12)) = some (.int .i64 ((rd_T32 l0 a2).f0)) ∧ w'.cell? ⟨(ad106.add ((a2).toNat * 12)).block, (ad106.add ((a2).toNat * 12)).off + 1, none⟩ = some (.int .i64 ((rd_T32 l0 a2).f1)) ∧ w'.cell? ⟨(ad106.add ((a2).toNat * 12)).block, (ad106.add ((a2).toNat * 12)).off + 2, none⟩ = some (.int .i64 ((rd_T32 l0 a2).f2)) ∧ w'.cell? ⟨(ad106.add ((a2).toNat * 12)).block, (ad106.add ((a2).toNat * 12)).off + 3, none⟩ = some (.int .i64 ((rd_T32 l0 a2).f3)) ∧ w'.cell? ⟨(ad106.add ((a2).toNat * 12)).block, (ad106.add ((a2).toNat * 12)).off + 4, none⟩ = some (.int .i64 ((rd_T32 l0 a2).f4)) ∧ w'.cell? ⟨(ad106.add ((a2).toNat * 12)).block, (ad106.add ((a2).toNat * 12)).off + 5, none⟩ = some (.int .i64 ((rd_T32 l0 a2).f5)) ∧ w'.cell? ⟨(ad106.add ((a2).toNat * 12)).block, (ad106.add ((a2).toNat * 12)).off + 6, none⟩ = some (.int .i64 ((rd_T32 l0 a2).f6)) ∧ w'.cell? ⟨(ad106.add ((a2).toNat * 12)).block, (ad106.add ((a2).toNat * 12)).off + 7, none⟩ = some (.int .i64 ((rd_T32 l0 a2).f7)) ∧ w'.cell? ⟨(ad106.add ((a2).toNat * 12)).block, (ad106.add ((a2).toNat * 12)).off + 8, none⟩ = some (.int .i64 ((rd_T32 l0 a2).f8)) ∧ w'.cell? ⟨(ad106.add ((a2).toNat * 12)).block, (ad106.add ((a2).toNat * 12)).off + 9, none⟩ = some (.int .i64 ((rd_T32 l0 a2).f9)) ∧ w'.cell? ⟨(ad106.add ((a2).toNat * 12)).block, (ad106.add ((a2).toNat * 12)).off + 10, none⟩ = some (.int .i64 ((rd_T32 l0 a2).f10)) ∧ w'.cell? ⟨(ad106.add ((a2).toNat * 12)).block, (ad106.add ((a2).toNat * 12)).off + 11, none⟩ = some (.slice A107_11 ((rd_T32 l0 a2).f11).length c107_11)) (ds := []) #[false, false, false, false, false, false, false, false, false, false, false, false] (by kernel_rfl) rfl rfl ⟨((HB.out.cell (World.block_lt_of_cell? w _ hw106_0)).trans hw106_0), ((HB.out.cell (World.block_lt_of_cell? w _ hw106_1)).trans hw106_1), ((HB.out.cell (World.block_lt_of_cell? w _ hw106_2)).trans hw106_2), ((HB.out.cell (World.block_lt_of_cell? w _ hw106_3)).trans hw106_3), ((HB.out.cell (World.block_lt_of_cell? w _ hw106_4)).trans hw106_4), ((HB.out.cell (World.block_lt_of_cell? w _ hw106_5)).trans hw106_5), ((HB.out.cell (World.block_lt_of_cell? w _ hw106_6)).trans hw106_6), ((HB.out.cell (World.block_lt_of_cell? w _ hw106_7)).trans hw106_7), ((HB.out.cell (World.block_lt_of_cell? w _ hw106_8)).trans hw106_8), ((HB.out.cell (World.block_lt_of_cell? w _ hw106_9)).trans hw106_9), ((HB.out.cell (World.block_lt_of_cell? w _ hw106_10)).trans hw106_10), ((HB.out.cell (World.block_lt_of_cell? w _ hw106_11)).trans hw106_11), ((HB.out.cell (World.block_lt_of_cell? w _ hw107_0)).trans hw107_0), ((HB.out.cell (World.block_lt_of_cell? w _ hw107_1)).trans hw107_1), ((HB.out.cell (World.block_lt_of_cell? w _ hw107_2)).trans hw107_2), ((HB.out.cell (World.block_lt_of_cell? w _ hw107_3)).trans hw107_3), ((HB.out.cell (World.block_lt_of_cell? w _ hw107_4)).trans hw107_4), ((HB.out.cell (World.block_lt_of_cell? w _ hw107_5)).trans hw107_5), ((HB.out.cell (World.block_lt_of_cell? w _ hw107_6)).trans hw107_6), ((HB.out.cell (World.block_lt_of_cell? w _ hw107_7)).trans hw107_7), ((HB.out.cell (World.block_lt_of_cell? w _ hw107_8)).trans hw107_8), ((HB.out.cell (World.block_lt_of_cell? w _ hw107_9)).trans hw107_9), ((HB.out.cell (World.block_lt_of_cell? w _ hw107_10)).trans hw107_10), ((HB.out.cell (World.block_lt_of_cell? w _ hw107_11)).trans hw107_11)⟩ (fun hHeld => ?_); refine with_tabW prebendref15_ahead.tab1 prebendref15_ahead.bits1 (fun HT_ HW_ => ?_)
     generalize w.drew = w72 at HB HR106_11 HR107_11 hx106_0 hx106_1 hx106_10 hx106_11 hx106_2 hx106_3 hx106_4 hx106_5 hx106_6 hx106_7 hx106_8 hx106_9 hx107_0 hx107_1 hx107_10 hx107_11 hx107_2 hx107_3 hx107_4 hx107_5 hx107_6 hx107_7 hx107_8 hx107_9 hHeld ⊢
     refine plan_ [(0, 9), (1, 10), (2, 11), (4, 13), (5, 14), (6, 15)] ?_
     iterate 6 (refine planP_ (v := ?_) (a' := ?_) rfl rfl (any_of HT_.out (by kernel_rfl)) (fun _ _ _ h => h) (Or.inl ⟨by rfl, ?_⟩) ?_ ?_; rotate_left; (intro w'; go_simp; with_reducible rfl); rotate_left; (simp only [Act.put, List.setIfInBounds_toArray, List.set_cons_zero, List.set_cons_succ, i64_w, i32_w]; rfl))
     refine planEnd_ ?_
     refine plan_ [(3, 12), (7, 16)] ?_
     iterate 2 (refine planT_ (v := ?_) (a' := ?_) rfl rfl (take_ofW HT_.out HW_.out (by kernel_rfl)) (fun _ _ _ h => h) (Or.inl ⟨by rfl, ?_⟩) hHeld ?_ ?_; rotate_left; (rintro w' ⟨s0, s1, s2, s3, s4, s5, s6, s7, s8, s9, s10, s11, s12, s13, s14, s15, s16, s17, s18, s19, s20, s21, s22, s23⟩; go_simp; with_reducible rfl); rotate_left; (simp only [Act.put, List.setIfInBounds_toArray, List.set_cons_zero, List.set_cons_succ, i64_w, i32_w]; rfl))
     refine planEnd_ ?_
     refine join_ (σ := Nat × Nat) 2 #[true, true, true, true, true, true, true, true, true, true, false, false] (fun s_ => [(7, .pointer (some ⟨s_.1, 0, none⟩)), (8, .pointer (some ⟨s_.2, 0, none⟩))]) (fun s_ w' => (w'.cell? (ad106.add ((a1).toNat * 12)) = some (.int .i64 ((rd_T32 l0 a1).f0)) ∧ w'.cell? ⟨(ad106.add ((a1).toNat * 12)).block, (ad106.add ((a1).toNat * 12)).off + 1, none⟩ = some (.int .i64 ((rd_T32 l0 a1).f1)) ∧ w'.cell? ⟨(ad106.add ((a1).toNat * 12)).block, (ad106.add ((a1).toNat * 12)).off + 2, none⟩ = some (.int .i64 ((rd_T32 l0 a1).f2)) ∧ w'.cell? ⟨(ad106.add ((a1).toNat * 12)).block, (ad106.add ((a1).toNat * 12)).off + 3, none⟩ = some (.int .i64 ((rd_T32 l0 a1).f3)) ∧ w'.cell? ⟨(ad106.add ((a1).toNat * 12)).block, (ad106.add ((a1).toNat * 12)).off + 4, none⟩ = some (.int .i64 ((rd_T32 l0 a1).f4)) ∧ w'.cell? ⟨(ad106.add ((a1).toNat * 12)).block, (ad106.add ((a1).toNat * 12)).off + 5, none⟩ = some (.int .i64 ((rd_T32 l0 a1).f5)) ∧ w'.cell? ⟨(ad106.add ((a1).toNat * 12)).block, (ad106.add ((a1).toNat * 12)).off + 6, none⟩ = some (.int .i64 ((rd_T32 l0 a1).f6)) ∧ w'.cell? ⟨(ad106.add ((a1).toNat * 12)).block, (ad106.add ((a1).toNat * 12)).off + 7, none⟩ = some (.int .i64 ((rd_T32 l0 a1).f7)) ∧ w'.cell? ⟨(ad106.add ((a1).toNat * 12)).block, (ad106.add ((a1).toNat * 12)).off + 8, none⟩ = some (.int .i64 ((rd_T32 l0 a1).f8)) ∧ w'.cell? ⟨(ad106.add ((a1).toNat * 12)).block, (ad106.add ((a1).toNat * 12)).off + 9, none⟩ = some (.int .i64 ((rd_T32 l0 a1).f9)) ∧ w'.cell? ⟨(ad106.add ((a1).toNat * 12)).block, (ad106.add ((a1).toNat * 12)).off + 10, none⟩ = some (.int .i64 ((rd_T32 l0 a1).f10)) ∧ w'.cell? ⟨(ad106.add ((a1).toNat * 12)).block, (ad106.add ((a1).toNat * 12)).off + 11, none⟩ = some (.slice A106_11 ((rd_T32 l0 a1).f11).length c106_11) ∧ w'.cell? (ad106.add ((a2).toNat * 12)) = some (.int .i64 ((rd_T32 l0 a2).f0)) ∧ w'.cell? ⟨(ad106.add ((a2).toNat * 12)).block, (ad106.add ((a2).toNat * 12)).off + 1, none⟩ = some (.int .i64 ((rd_T32 l0 a2).f1)) ∧ w'.cell? ⟨(ad106.add ((a2).toNat * 12)).block, (ad106.add ((a2).toNat * 12)).off + 2, none⟩ = some (.int .i64 ((rd_T32 l0 a2).f2)) ∧ w'.cell? ⟨(ad106.add ((a2).toNat * 12)).block, (ad106.add ((a2).toNat * 12)).off + 3, none⟩ = some (.int .i64 ((rd_T32 l0 a2).f3)) ∧ w'.cell? ⟨(ad106.add ((a2).toNat * 12)).block, (ad106.add ((a2).toNat * 12)).off + 4, none⟩ = some (.int .i64 ((rd_T32 l0 a2).f4)) ∧ w'.cell? ⟨(ad106.add ((a2).toNat * 12)).block, (ad106.add ((a2).toNat * 12)).off + 5, none⟩ = some (.int .i64 ((rd_T32 l0 a2).f5)) ∧ w'.cell? ⟨(ad106.add ((a2).toNat * 12)).block, (ad106.add ((a2).toNat * 12)).off + 6, none⟩ = some (.int .i64 ((rd_T32 l0 a2).f6)) ∧ w'.cell? ⟨(ad106.add ((a2).toNat * 12)).block, (ad106.add ((a2).toNat * 12)).off + 7, none⟩ = some (.int .i64 ((rd_T32 l0 a2).f7)) ∧ w'.cell? ⟨(ad106.add ((a2).toNat * 12)).block, (ad106.add ((a2).toNat * 12)).off + 8, none⟩ = some (.int .i64 ((rd_T32 l0 a2).f8)) ∧ w'.cell? ⟨(ad106.add ((a2).toNat * 12)).block, (ad106.add ((a2).toNat * 12)).off + 9, none⟩ = some (.int .i64 ((rd_T32 l0 a2).f9)) ∧ w'.cell? ⟨(ad106.add ((a2).toNat * 12)).block, (ad106.add ((a2).toNat * 12)).off + 10, none⟩ = some (.int .i64 ((rd_T32 l0 a2).f10)) ∧ w'.cell? ⟨(ad106.add ((a2).toNat * 12)).block, (ad106.add ((a2).toNat * 12)).off + 11, none⟩ = some (.slice A107_11 ((rd_T32 l0 a2).f11).length c107_11)) ∧ (w'.heap[s_.1]? = some (.cells #[.int .i64 0, .int .i64 0, .int .i64 0, .int .i64 0, .int .i64 0, .int .i64 0, .int .i64 0, .int .i64 0, .int .i64 0, .int .i64 0, .int .i64 0, .slice none 0 0] 32 (0, 0))) ∧ (w'.heap[s_.2]? = some (.cells #[.int .i64 0, .int .i64 0, .int .i64 0, .int .i64 0, .int .i64 0, .int .i64 0, .int .i64 0, .int .i64 0, .int .i64 0, .int .i64 0, .int .i64 0, .slice none 0 0] 32 (0, 0))) ∧ (w.heap.size ≤ s_.1) ∧ (w.heap.size ≤ s_.1) ∧ (s_.2 ≠ s_.1) ∧ (s_.1 ≠ s_.2) ∧ (w.heap.size ≤ s_.2) ∧ (w.heap.size ≤ s_.2) ∧ (Below w.heap.size w w')) ?_ ?_
     rotate_left
     ·intro hCont
      refine two_ (i := 8) (j := 9) (Ni := some 7) (Nj := some 8) #[true, true, true, true, true, true, true, true, true, false, false, false] #[true, true, true, true, true, true, true, true, false, true, false, false] rfl rfl rfl rfl (two_of HT_.out (by kernel_rfl)) (by decide) (by decide) (fun K hK => ?_) (fun K hK => ?_)
      ·skip
       refine box_step ?hg (N := 7) ?hd (cs := #[.int .i64 0, .int .i64 0, .int .i64 0, .int .i64 0, .int .i64 0, .int .i64 0, .int .i64 0, .int .i64 0, .int .i64 0, .int .i64 0, .int .i64 0, .slice none 0 0]) (t := 32) ?hr ?_; (case hd => rfl); (case hg => rfl); (case hr => first | (go_simp; done) | (go_simp; rfl))
       intro gb108 hg w73 hbox hb
       have n0_ := Aside0.mk (below_step (mB HB.out) hb)
       have n1_ := Aside0.mk (hbox)
       have n2_ := Aside0.mk ((by rw [hg]; exact (below_size (mB HB.out)) : w.heap.size ≤ gb108))
       have n3_ := Aside0.mk ((by rw [hg]; exact (below_size (mB HB.out)) : w.heap.size ≤ gb108))
       clear HB
       have HB := n0_
       have BK108 := n1_
       have GW108 := n2_
       have GE108 := n3_
       clear n0_; clear n1_; clear n2_; clear n3_; clear hb; clear hbox; clear hg
       refine hK.out _ _ ⟨((HB.out.cell (World.block_lt_of_cell? w _ hw106_0)).trans hw106_0), ((HB.out.cell (World.block_lt_of_cell? w _ hw106_1)).trans hw106_1), ((HB.out.cell (World.block_lt_of_cell? w _ hw106_2)).trans hw106_2), ((HB.out.cell (World.block_lt_of_cell? w _ hw106_3)).trans hw106_3), ((HB.out.cell (World.block_lt_of_cell? w _ hw106_4)).trans hw106_4), ((HB.out.cell (World.block_lt_of_cell? w _ hw106_5)).trans hw106_5), ((HB.out.cell (World.block_lt_of_cell? w _ hw106_6)).trans hw106_6), ((HB.out.cell (World.block_lt_of_cell? w _ hw106_7)).trans hw106_7), ((HB.out.cell (World.block_lt_of_cell? w _ hw106_8)).trans hw106_8), ((HB.out.cell (World.block_lt_of_cell? w _ hw106_9)).trans hw106_9), ((HB.out.cell (World.block_lt_of_cell? w _ hw106_10)).trans hw106_10), ((HB.out.cell (World.block_lt_of_cell? w _ hw106_11)).trans hw106_11), ((HB.out.cell (World.block_lt_of_cell? w _ hw107_0)).trans hw107_0), ((HB.out.cell (World.block_lt_of_cell? w _ hw107_1)).trans hw107_1), ((HB.out.cell (World.block_lt_of_cell? w _ hw107_2)).trans hw107_2), ((HB.out.cell (World.block_lt_of_cell? w _ hw107_3)).trans hw107_3), ((HB.out.cell (World.block_lt_of_cell? w _ hw107_4)).trans hw107_4), ((HB.out.cell (World.block_lt_of_cell? w _ hw107_5)).trans hw107_5), ((HB.out.cell (World.block_lt_of_cell? w _ hw107_6)).trans hw107_6), ((HB.out.cell (World.block_lt_of_cell? w _ hw107_7)).trans hw107_7), ((HB.out.cell (World.block_lt_of_cell? w _ hw107_8)).trans hw107_8), ((HB.out.cell (World.block_lt_of_cell? w _ hw107_9)).trans hw107_9), ((HB.out.cell (World.block_lt_of_cell? w _ hw107_10)).trans hw107_10), ((HB.out.cell (World.block_lt_of_cell? w _ hw107_11)).trans hw107_11)⟩ (fun hHeld => ?_)
       clear hK; clear K
       refine norm_ (a' := ?_) ?_ ?_
       rotate_left
       ·show Act.put _ (some 7) _ = _
        simp only [Act.put, List.setIfInBounds_toArray, List.set_cons_zero, List.set_cons_succ, i64_w, i32_w]
        rfl
       refine one_ (i := 9) (N := some 8) #[true, true, true, true, true, true, true, true, true, true, false, false] rfl rfl (one_of HT_.out (by kernel_rfl)) (by decide) (fun K hK => ?_)
       refine box_step ?hg (N := 8) ?hd (cs := #[.int .i64 0, .int .i64 0, .int .i64 0, .int .i64 0, .int .i64 0, .int .i64 0, .int .i64 0, .int .i64 0, .int .i64 0, .int .i64 0, .int .i64 0, .slice none 0 0]) (t := 32) ?hr ?_; (case hd => rfl); (case hg => rfl); (case hr => first | (go_simp; done) | (go_simp; rfl))
       intro gb109 hg w74 hbox hb
       have n0_ := Aside0.mk (blk_below (g := gb108) (o := .cells #[.int .i64 0, .int .i64 0, .int .i64 0, .int .i64 0, .int .i64 0, .int .i64 0, .int .i64 0, .int .i64 0, .int .i64 0, .int .i64 0, .int .i64 0, .slice none 0 0] 32 (0, 0)) (mBK BK108.out) hb)
       have n1_ := Aside0.mk (below_step (mBs HB.out) hb)
       have n2_ := Aside0.mk (hbox)
       have n3_ := Aside0.mk ((by rw [hg]; exact (below_size (mBs HB.out)) : w.heap.size ≤ gb109))
       have n4_ := Aside0.mk ((by rw [hg]; exact (below_size (mBs HB.out)) : w.heap.size ≤ gb109))
       have n5_ := Aside0.mk ((by rw [hg]; exact Nat.ne_of_lt (blk_lt (g := gb108) (o := .cells #[.int .i64 0, .int .i64 0, .int .i64 0, .int .i64 0, .int .i64 0, .int .i64 0, .int .i64 0, .int .i64 0, .int .i64 0, .int .i64 0, .int .i64 0, .slice none 0 0] 32 (0, 0)) (mBK BK108.out)) : gb108 ≠ gb109))
       have n6_ := Aside0.mk ((by rw [hg]; exact Nat.ne_of_gt (blk_lt (g := gb108) (o := .cells #[.int .i64 0, .int .i64 0, .int .i64 0, .int .i64 0, .int .i64 0, .int .i64 0, .int .i64 0, .int .i64 0, .int .i64 0, .int .i64 0, .int .i64 0, .slice none 0 0] 32 (0, 0)) (mBK BK108.out)) : gb109 ≠ gb108))
       clear BK108; clear HB
       have BK108 := n0_
       have HB := n1_
       have BK109 := n2_
       have GW109 := n3_
       have GE109 := n4_
       have NB108_109 := n5_
       have NB109_108 := n6_
       clear n0_; clear n1_; clear n2_; clear n3_; clear n4_; clear n5_; clear n6_; clear hb; clear hbox; clear hg
       refine hK.out _ _ ⟨((HB.out.cell (World.block_lt_of_cell? w _ hw106_0)).trans hw106_0), ((HB.out.cell (World.block_lt_of_cell? w _ hw106_1)).trans hw106_1), ((HB.out.cell (World.block_lt_of_cell? w _ hw106_2)).trans hw106_2), ((HB.out.cell (World.block_lt_of_cell? w _ hw106_3)).trans hw106_3), ((HB.out.cell (World.block_lt_of_cell? w _ hw106_4)).trans hw106_4), ((HB.out.cell (World.block_lt_of_cell? w _ hw106_5)).trans hw106_5), ((HB.out.cell (World.block_lt_of_cell? w _ hw106_6)).trans hw106_6), ((HB.out.cell (World.block_lt_of_cell? w _ hw106_7)).trans hw106_7), ((HB.out.cell (World.block_lt_of_cell? w _ hw106_8)).trans hw106_8), ((HB.out.cell (World.block_lt_of_cell? w _ hw106_9)).trans hw106_9), ((HB.out.cell (World.block_lt_of_cell? w _ hw106_10)).trans hw106_10), ((HB.out.cell (World.block_lt_of_cell? w _ hw106_11)).trans hw106_11), ((HB.out.cell (World.block_lt_of_cell? w _ hw107_0)).trans hw107_0), ((HB.out.cell (World.block_lt_of_cell? w _ hw107_1)).trans hw107_1), ((HB.out.cell (World.block_lt_of_cell? w _ hw107_2)).trans hw107_2), ((HB.out.cell (World.block_lt_of_cell? w _ hw107_3)).trans hw107_3), ((HB.out.cell (World.block_lt_of_cell? w _ hw107_4)).trans hw107_4), ((HB.out.cell (World.block_lt_of_cell? w _ hw107_5)).trans hw107_5), ((HB.out.cell (World.block_lt_of_cell? w _ hw107_6)).trans hw107_6), ((HB.out.cell (World.block_lt_of_cell? w _ hw107_7)).trans hw107_7), ((HB.out.cell (World.block_lt_of_cell? w _ hw107_8)).trans hw107_8), ((HB.out.cell (World.block_lt_of_cell? w _ hw107_9)).trans hw107_9), ((HB.out.cell (World.block_lt_of_cell? w _ hw107_10)).trans hw107_10), ((HB.out.cell (World.block_lt_of_cell? w _ hw107_11)).trans hw107_11)⟩ (fun hHeld => ?_)
       clear hK; clear K
       refine norm_ (a' := ?_) ?_ ?_
       rotate_left
       ·show Act.put _ (some 8) _ = _
        simp only [Act.put, List.setIfInBounds_toArray, List.set_cons_zero, List.set_cons_succ, i64_w, i32_w]
        rfl
       exact norm_ (by simp only [putAll, Act.put, List.setIfInBounds_toArray, List.set_cons_zero, List.set_cons_succ]) (hCont (gb108, gb109) _ ⟨hHeld, (mBK BK108.out), (mBK BK109.out), GW108.out, GE108.out, NB109_108.out, NB108_109.out, GW109.out, GE109.out, (mBs HB.out)⟩)
      ·skip
       refine box_step ?hg (N := 8) ?hd (cs := #[.int .i64 0, .int .i64 0, .int .i64 0, .int .i64 0, .int .i64 0, .int .i64 0, .int .i64 0, .int .i64 0, .int .i64 0, .int .i64 0, .int .i64 0, .slice none 0 0]) (t := 32) ?hr ?_; (case hd => rfl); (case hg => rfl); (case hr => first | (go_simp; done) | (go_simp; rfl))
       intro gb109 hg w73 hbox hb
       have n0_ := Aside0.mk (below_step (mB HB.out) hb)
       have n1_ := Aside0.mk (hbox)
       have n2_ := Aside0.mk ((by rw [hg]; exact (below_size (mB HB.out)) : w.heap.size ≤ gb109))
       have n3_ := Aside0.mk ((by rw [hg]; exact (below_size (mB HB.out)) : w.heap.size ≤ gb109))
       clear HB
       have HB := n0_
       have BK109 := n1_
       have GW109 := n2_
       have GE109 := n3_
       clear n0_; clear n1_; clear n2_; clear n3_; clear hb; clear hbox; clear hg
       refine hK.out _ _ ⟨((HB.out.cell (World.block_lt_of_cell? w _ hw106_0)).trans hw106_0), ((HB.out.cell (World.block_lt_of_cell? w _ hw106_1)).trans hw106_1), ((HB.out.cell (World.block_lt_of_cell? w _ hw106_2)).trans hw106_2), ((HB.out.cell (World.block_lt_of_cell? w _ hw106_3)).trans hw106_3), ((HB.out.cell (World.block_lt_of_cell? w _ hw106_4)).trans hw106_4), ((HB.out.cell (World.block_lt_of_cell? w _ hw106_5)).trans hw106_5), ((HB.out.cell (World.block_lt_of_cell? w _ hw106_6)).trans hw106_6), ((HB.out.cell (World.block_lt_of_cell? w _ hw106_7)).trans hw106_7), ((HB.out.cell (World.block_lt_of_cell? w _ hw106_8)).trans hw106_8), ((HB.out.cell (World.block_lt_of_cell? w _ hw106_9)).trans hw106_9), ((HB.out.cell (World.block_lt_of_cell? w _ hw106_10)).trans hw106_10), ((HB.out.cell (World.block_lt_of_cell? w _ hw106_11)).trans hw106_11), ((HB.out.cell (World.block_lt_of_cell? w _ hw107_0)).trans hw107_0), ((HB.out.cell (World.block_lt_of_cell? w _ hw107_1)).trans hw107_1), ((HB.out.cell (World.block_lt_of_cell? w _ hw107_2)).trans hw107_2), ((HB.out.cell (World.block_lt_of_cell? w _ hw107_3)).trans hw107_3), ((HB.out.cell (World.block_lt_of_cell? w _ hw107_4)).trans hw107_4), ((HB.out.cell (World.block_lt_of_cell? w _ hw107_5)).trans hw107_5), ((HB.out.cell (World.block_lt_of_cell? w _ hw107_6)).trans hw107_6), ((HB.out.cell (World.block_lt_of_cell? w _ hw107_7)).trans hw107_7), ((HB.out.cell (World.block_lt_of_cell? w _ hw107_8)).trans hw107_8), ((HB.out.cell (World.block_lt_of_cell? w _ hw107_9)).trans hw107_9), ((HB.out.cell (World.block_lt_of_cell? w _ hw107_10)).trans hw107_10), ((HB.out.cell (World.block_lt_of_cell? w _ hw107_11)).trans hw107_11)⟩ (fun hHeld => ?_)
       clear hK; clear K
       refine norm_ (a' := ?_) ?_ ?_
       rotate_left
       ·show Act.put _ (some 8) _ = _
        simp only [Act.put, List.setIfInBounds_toArray, List.set_cons_zero, List.set_cons_succ, i64_w, i32_w]
        rfl
       refine one_ (i := 8) (N := some 7) #[true, true, true, true, true, true, true, true, true, true, false, false] rfl rfl (one_of HT_.out (by kernel_rfl)) (by decide) (fun K hK => ?_)
       refine box_step ?hg (N := 7) ?hd (cs := #[.int .i64 0, .int .i64 0, .int .i64 0, .int .i64 0, .int .i64 0, .int .i64 0, .int .i64 0, .int .i64 0, .int .i64 0, .int .i64 0, .int .i64 0, .slice none 0 0]) (t := 32) ?hr ?_; (case hd => rfl); (case hg => rfl); (case hr => first | (go_simp; done) | (go_simp; rfl))
       intro gb108 hg w74 hbox hb
       have n0_ := Aside0.mk (blk_below (g := gb109) (o := .cells #[.int .i64 0, .int .i64 0, .int .i64 0, .int .i64 0, .int .i64 0, .int .i64 0, .int .i64 0, .int .i64 0, .int .i64 0, .int .i64 0, .int .i64 0, .slice none 0 0] 32 (0, 0)) (mBK BK109.out) hb)
       have n1_ := Aside0.mk (below_step (mBs HB.out) hb)
       have n2_ := Aside0.mk (hbox)
       have n3_ := Aside0.mk ((by rw [hg]; exact (below_size (mBs HB.out)) : w.heap.size ≤ gb108))
       have n4_ := Aside0.mk ((by rw [hg]; exact (below_size (mBs HB.out)) : w.heap.size ≤ gb108))
       have n5_ := Aside0.mk ((by rw [hg]; exact Nat.ne_of_lt (blk_lt (g := gb109) (o := .cells #[.int .i64 0, .int .i64 0, .int .i64 0, .int .i64 0, .int .i64 0, .int .i64 0, .int .i64 0, .int .i64 0, .int .i64 0, .int .i64 0, .int .i64 0, .slice none 0 0] 32 (0, 0)) (mBK BK109.out)) : gb109 ≠ gb108))
       have n6_ := Aside0.mk ((by rw [hg]; exact Nat.ne_of_gt (blk_lt (g := gb109) (o := .cells #[.int .i64 0, .int .i64 0, .int .i64 0, .int .i64 0, .int .i64 0, .int .i64 0, .int .i64 0, .int .i64 0, .int .i64 0, .int .i64 0, .int .i64 0, .slice none 0 0] 32 (0, 0)) (mBK BK109.out)) : gb108 ≠ gb109))
       clear BK109; clear HB
       have BK109 := n0_
       have HB := n1_
       have BK108 := n2_
       have GW108 := n3_
       have GE108 := n4_
       have NB109_108 := n5_
       have NB108_109 := n6_
       clear n0_; clear n1_; clear n2_; clear n3_; clear n4_; clear n5_; clear n6_; clear hb; clear hbox; clear hg
       refine hK.out _ _ ⟨((HB.out.cell (World.block_lt_of_cell? w _ hw106_0)).trans hw106_0), ((HB.out.cell (World.block_lt_of_cell? w _ hw106_1)).trans hw106_1), ((HB.out.cell (World.block_lt_of_cell? w _ hw106_2)).trans hw106_2), ((HB.out.cell (World.block_lt_of_cell? w _ hw106_3)).trans hw106_3), ((HB.out.cell (World.block_lt_of_cell? w _ hw106_4)).trans hw106_4), ((HB.out.cell (World.block_lt_of_cell? w _ hw106_5)).trans hw106_5), ((HB.out.cell (World.block_lt_of_cell? w _ hw106_6)).trans hw106_6), ((HB.out.cell (World.block_lt_of_cell? w _ hw106_7)).trans hw106_7), ((HB.out.cell (World.block_lt_of_cell? w _ hw106_8)).trans hw106_8), ((HB.out.cell (World.block_lt_of_cell? w _ hw106_9)).trans hw106_9), ((HB.out.cell (World.block_lt_of_cell? w _ hw106_10)).trans hw106_10), ((HB.out.cell (World.block_lt_of_cell? w _ hw106_11)).trans hw106_11), ((HB.out.cell (World.block_lt_of_cell? w _ hw107_0)).trans hw107_0), ((HB.out.cell (World.block_lt_of_cell? w _ hw107_1)).trans hw107_1), ((HB.out.cell (World.block_lt_of_cell? w _ hw107_2)).trans hw107_2), ((HB.out.cell (World.block_lt_of_cell? w _ hw107_3)).trans hw107_3), ((HB.out.cell (World.block_lt_of_cell? w _ hw107_4)).trans hw107_4), ((HB.out.cell (World.block_lt_of_cell? w _ hw107_5)).trans hw107_5), ((HB.out.cell (World.block_lt_of_cell? w _ hw107_6)).trans hw107_6), ((HB.out.cell (World.block_lt_of_cell? w _ hw107_7)).trans hw107_7), ((HB.out.cell (World.block_lt_of_cell? w _ hw107_8)).trans hw107_8), ((HB.out.cell (World.block_lt_of_cell? w _ hw107_9)).trans hw107_9), ((HB.out.cell (World.block_lt_of_cell? w _ hw107_10)).trans hw107_10), ((HB.out.cell (World.block_lt_of_cell? w _ hw107_11)).trans hw107_11)⟩ (fun hHeld => ?_)
       clear hK; clear K
       refine norm_ (a' := ?_) ?_ ?_
       rotate_left
       ·show Act.put _ (some 7) _ = _
        simp only [Act.put, List.setIfInBounds_toArray, List.set_cons_zero, List.set_cons_succ, i64_w, i32_w]
        rfl
       exact norm_ (by simp only [putAll, Act.put, List.setIfInBounds_toArray, List.set_cons_zero, List.set_cons_succ]) (hCont (gb108, gb109) _ ⟨hHeld, (mBK BK108.out), (mBK BK109.out), GW108.out, GE108.out, NB109_108.out, NB108_109.out, GW109.out, GE109.out, (mBs HB.out)⟩)
     rintro ⟨gb108, gb109⟩ w75 ⟨hS_, h0_, h1_, h2_, h3_, h4_, h5_, h6_, h7_, h8_⟩
     have n0_ : Aside0 (w75.heap[gb108]? = some (.cells #[.int .i64 0, .int .i64 0, .int .i64 0, .int .i64 0, .int .i64 0, .int .i64 0, .int .i64 0, .int .i64 0, .int .i64 0, .int .i64 0, .int .i64 0, .slice none 0 0] 32 (0, 0))) := ⟨h0_⟩
     have n1_ : Aside0 (w75.heap[gb109]? = some (.cells #[.int .i64 0, .int .i64 0, .int .i64 0, .int .i64 0, .int .i64 0, .int .i64 0, .int .i64 0, .int .i64 0, .int .i64 0, .int .i64 0, .int .i64 0, .slice none 0 0] 32 (0, 0))) := ⟨h1_⟩
     have n2_ : Aside0 (w.heap.size ≤ gb108) := ⟨h2_⟩
     have n3_ : Aside0 (w.heap.size ≤ gb108) := ⟨h3_⟩
     have n4_ : Aside0 (gb109 ≠ gb108) := ⟨h4_⟩
     have n5_ : Aside0 (gb108 ≠ gb109) := ⟨h5_⟩
     have n6_ : Aside0 (w.heap.size ≤ gb109) := ⟨h6_⟩
     have n7_ : Aside0 (w.heap.size ≤ gb109) := ⟨h7_⟩
     have n8_ : Aside0 (Below w.heap.size w w75) := ⟨h8_⟩
     clear HB; clear h0_; clear h1_; clear h2_; clear h3_; clear h4_; clear h5_; clear h6_; clear h7_; clear h8_
     have BK108 := n0_
     have BK109 := n1_
     have GW108 := n2_
     have GE108 := n3_
     have NB109_108 := n4_
     have NB108_109 := n5_
     have GW109 := n6_
     have GE109 := n7_
     have HB := n8_
     clear n0_; clear n1_; clear n2_; clear n3_; clear n4_; clear n5_; clear n6_; clear n7_; clear n8_
     have hHeld : w75.cell? (ad106.add ((a1).toNat * 12)) = some (.int .i64 ((rd_T32 l0 a1).f0)) ∧ w75.cell? ⟨(ad106.add ((a1).toNat * 12)).block, (ad106.add ((a1).toNat * 12)).off + 1, none⟩ = some (.int .i64 ((rd_T32 l0 a1).f1)) ∧ w75.cell? ⟨(ad106.add ((a1).toNat * 12)).block, (ad106.add ((a1).toNat * 12)).off + 2, none⟩ = some (.int .i64 ((rd_T32 l0 a1).f2)) ∧ w75.cell? ⟨(ad106.add ((a1).toNat * 12)).block, (ad106.add ((a1).toNat * 12)).off + 3, none⟩ = some (.int .i64 ((rd_T32 l0 a1).f3)) ∧ w75.cell? ⟨(ad106.add ((a1).toNat * 12)).block, (ad106.add ((a1).toNat * 12)).off + 4, none⟩ = some (.int .i64 ((rd_T32 l0 a1).f4)) ∧ w75.cell? ⟨(ad106.add ((a1).toNat * 12)).block, (ad106.add ((a1).toNat * 12)).off + 5, none⟩ = some (.int .i64 ((rd_T32 l0 a1).f5)) ∧ w75.cell? ⟨(ad106.add ((a1).toNat * 12)).block, (ad106.add ((a1).toNat * 12)).off + 6, none⟩ = some (.int .i64 ((rd_T32 l0 a1).f6)) ∧ w75.cell? ⟨(ad106.add ((a1).toNat * 12)).block, (ad106.add ((a1).toNat * 12)).off + 7, none⟩ = some (.int .i64 ((rd_T32 l0 a1).f7)) ∧ w75.cell? ⟨(ad106.add ((a1).toNat * 12)).block, (ad106.add ((a1).toNat * 12)).off + 8, none⟩ = some (.int .i64 ((rd_T32 l0 a1).f8)) ∧ w75.cell? ⟨(ad106.add ((a1).toNat * 12)).block, (ad106.add ((a1).toNat * 12)).off + 9, none⟩ = some (.int .i64 ((rd_T32 l0 a1).f9)) ∧ w75.cell? ⟨(ad106.add ((a1).toNat * 12)).block, (ad106.add ((a1).toNat * 12)).off + 10, none⟩ = some (.int .i64 ((rd_T32 l0 a1).f10)) ∧ w75.cell? ⟨(ad106.add ((a1).toNat * 12)).block, (ad106.add ((a1).toNat * 12)).off + 11, none⟩ = some (.slice A106_11 ((rd_T32 l0 a1).f11).length c106_11) ∧ w75.cell? (ad106.add ((a2).toNat * 12)) = some (.int .i64 ((rd_T32 l0 a2).f0)) ∧ w75.cell? ⟨(ad106.add ((a2).toNat * 12)).block, (ad106.add ((a2).toNat * 12)).off + 1, none⟩ = some (.int .i64 ((rd_T32 l0 a2).f1)) ∧ w75.cell? ⟨(ad106.add ((a2).toNat * 12)).block, (ad106.add ((a2).toNat * 12)).off + 2, none⟩ = some (.int .i64 ((rd_T32 l0 a2).f2)) ∧ w75.cell? ⟨(ad106.add ((a2).toNat * 12)).block, (ad106.add ((a2).toNat * 12)).off + 3, none⟩ = some (.int .i64 ((rd_T32 l0 a2).f3)) ∧ w75.cell? ⟨(ad106.add ((a2).toNat * 12)).block, (ad106.add ((a2).toNat * 12)).off + 4, none⟩ = some (.int .i64 ((rd_T32 l0 a2).f4)) ∧ w75.cell? ⟨(ad106.add ((a2).toNat * 12)).block, (ad106.add ((a2).toNat * 12)).off + 5, none⟩ = some (.int .i64 ((rd_T32 l0 a2).f5)) ∧ w75.cell? ⟨(ad106.add ((a2).toNat * 12)).block, (ad106.add ((a2).toNat * 12)).off + 6, none⟩ = some (.int .i64 ((rd_T32 l0 a2).f6)) ∧ w75.cell? ⟨(ad106.add ((a2).toNat * 12)).block, (ad106.add ((a2).toNat * 12)).off + 7, none⟩ = some (.int .i64 ((rd_T32 l0 a2).f7)) ∧ w75.cell? ⟨(ad106.add ((a2).toNat * 12)).block, (ad106.add ((a2).toNat * 12)).off + 8, none⟩ = some (.int .i64 ((rd_T32 l0 a2).f8)) ∧ w75.cell? ⟨(ad106.add ((a2).toNat * 12)).block, (ad106.add ((a2).toNat * 12)).off + 9, none⟩ = some (.int .i64 ((rd_T32 l0 a2).f9)) ∧ w75.cell? ⟨(ad106.add ((a2).toNat * 12)).block, (ad106.add ((a2).toNat * 12)).off + 10, none⟩ = some (.int .i64 ((rd_T32 l0 a2).f10)) ∧ w75.cell? ⟨(ad106.add ((a2).toNat * 12)).block, (ad106.add ((a2).toNat * 12)).off + 11, none⟩ = some (.slice A107_11 ((rd_T32 l0 a2).f11).length c107_11) := hS_
     refine norm_ (a' := ?_) ?_ ?_
     rotate_left
     ·simp only [putAll, Act.put, List.setIfInBounds_toArray, List.set_cons_zero, List.set_cons_succ]
      rfl
     refine one_ (i := 10) (N := none) #[true, true, true, true, true, true, true, true, true, true, true, false] rfl rfl (one_of HT_.out (by kernel_rfl)) (by decide) (fun K hK => ?_)
     have hs_0 : w75.cell? ⟨gb108, 0, none⟩ = some (.int .i64 0) := (blk_cell BK108.out 0).trans rfl
     have hf_0 := blk_frozen BK108.out 0
     have hs_1 : w75.cell? ⟨gb108, 1, none⟩ = some (.int .i64 0) := (blk_cell BK108.out 1).trans rfl
     have hf_1 := blk_frozen BK108.out 1
     have hs_2 : w75.cell? ⟨gb108, 2, none⟩ = some (.int .i64 0) := (blk_cell BK108.out 2).trans rfl
     have hf_2 := blk_frozen BK108.out 2
     have hs_3 : w75.cell? ⟨gb108, 3, none⟩ = some (.int .i64 0) := (blk_cell BK108.out 3).trans rfl
     have hf_3 := blk_frozen BK108.out 3
     have hs_4 : w75.cell? ⟨gb108, 4, none⟩ = some (.int .i64 0) := (blk_cell BK108.out 4).trans rfl
     have hf_4 := blk_frozen BK108.out 4
     have hs_5 : w75.cell? ⟨gb108, 5, none⟩ = some (.int .i64 0) := (blk_cell BK108.out 5).trans rfl
     have hf_5 := blk_frozen BK108.out 5
     have hs_6 : w75.cell? ⟨gb108, 6, none⟩ = some (.int .i64 0) := (blk_cell BK108.out 6).trans rfl
     have hf_6 := blk_frozen BK108.out 6
     have hs_7 : w75.cell? ⟨gb108, 7, none⟩ = some (.int .i64 0) := (blk_cell BK108.out 7).trans rfl
     have hf_7 := blk_frozen BK108.out 7
     have hs_8 : w75.cell? ⟨gb108, 8, none⟩ = some (.int .i64 0) := (blk_cell BK108.out 8).trans rfl
     have hf_8 := blk_frozen BK108.out 8
     have hs_9 : w75.cell? ⟨gb108, 9, none⟩ = some (.int .i64 0) := (blk_cell BK108.out 9).trans rfl
     have hf_9 := blk_frozen BK108.out 9
     have hs_10 : w75.cell? ⟨gb108, 10, none⟩ = some (.int .i64 0) := (blk_cell BK108.out 10).trans rfl
     have hf_10 := blk_frozen BK108.out 10
     have hs_11 : w75.cell? ⟨gb108, 11, none⟩ = some (.slice none 0 0) := (blk_cell BK108.out 11).trans rfl
     have hf_11 := blk_frozen BK108.out 11
     refine skip_ (w1 := ?_) (by rfl) rfl ?_ ?_
     rotate_left
     ·go_simp
      rfl
     clear hs_0 hf_0 hs_1 hf_1 hs_2 hf_2 hs_3 hf_3 hs_4 hf_4 hs_5 hf_5 hs_6 hf_6 hs_7 hf_7 hs_8 hf_8 hs_9 hf_9 hs_10 hf_10 hs_11 hf_11
     have n0_ : Aside0 (((((((((((((w75.setCell ⟨gb108, 0, none⟩ (.int .i64 (rd_T32 l0 a1).f0)).setCell ⟨gb108, 1, none⟩ (.int .i64 (rd_T32 l0 a1).f1)).setCell ⟨gb108, 2, none⟩ (.int .i64 (rd_T32 l0 a1).f2)).setCell ⟨gb108, 3, none⟩ (.int .i64 (rd_T32 l0 a1).f3)).setCell ⟨gb108, 4, none⟩ (.int .i64 (rd_T32 l0 a1).f4)).setCell ⟨gb108, 5, none⟩ (.int .i64 (rd_T32 l0 a1).f5)).setCell ⟨gb108, 6, none⟩ (.int .i64 (rd_T32 l0 a1).f6)).setCell ⟨gb108, 7, none⟩ (.int .i64 (rd_T32 l0 a1).f7)).setCell ⟨gb108, 8, none⟩ (.int .i64 (rd_T32 l0 a1).f8)).setCell ⟨gb108, 9, none⟩ (.int .i64 (rd_T32 l0 a1).f9)).setCell ⟨gb108, 10, none⟩ (.int .i64 (rd_T32 l0 a1).f10)).setCell ⟨gb108, 11, none⟩ (.slice A106_11 (rd_T32 l0 a1).f11.length c106_11)).heap[gb108]? = some (.cells #[.int .i64 (rd_T32 l0 a1).f0, .int .i64 (rd_T32 l0 a1).f1, .int .i64 (rd_T32 l0 a1).f2, .int .i64 (rd_T32 l0 a1).f3, .int .i64 (rd_T32 l0 a1).f4, .int .i64 (rd_T32 l0 a1).f5, .int .i64 (rd_T32 l0 a1).f6, .int .i64 (rd_T32 l0 a1).f7, .int .i64 (rd_T32 l0 a1).f8, .int .i64 (rd_T32 l0 a1).f9, .int .i64 (rd_T32 l0 a1).f10, .slice A106_11 (rd_T32 l0 a1).f11.length c106_11] 32 (0, 0))) := ⟨(blk_put (cs := #[.int .i64 (rd_T32 l0 a1).f0, .int .i64 (rd_T32 l0 a1).f1, .int .i64 (rd_T32 l0 a1).f2, .int .i64 (rd_T32 l0 a1).f3, .int .i64 (rd_T32 l0 a1).f4, .int .i64 (rd_T32 l0 a1).f5, .int .i64 (rd_T32 l0 a1).f6, .int .i64 (rd_T32 l0 a1).f7, .int .i64 (rd_T32 l0 a1).f8, .int .i64 (rd_T32 l0 a1).f9, .int .i64 (rd_T32 l0 a1).f10, .slice none 0 0]) (blk_put (cs := #[.int .i64 (rd_T32 l0 a1).f0, .int .i64 (rd_T32 l0 a1).f1, .int .i64 (rd_T32 l0 a1).f2, .int .i64 (rd_T32 l0 a1).f3, .int .i64 (rd_T32 l0 a1).f4, .int .i64 (rd_T32 l0 a1).f5, .int .i64 (rd_T32 l0 a1).f6, .int .i64 (rd_T32 l0 a1).f7, .int .i64 (rd_T32 l0 a1).f8, .int .i64 (rd_T32 l0 a1).f9, .int .i64 0, .slice none 0 0]) (blk_put (cs := #[.int .i64 (rd_T32 l0 a1).f0, .int .i64 (rd_T32 l0 a1).f1, .int .i64 (rd_T32 l0 a1).f2, .int .i64 (rd_T32 l0 a1).f3, .int .i64 (rd_T32 l0 a1).f4, .int .i64 (rd_T32 l0 a1).f5, .int .i64 (rd_T32 l0 a1).f6, .int .i64 (rd_T32 l0 a1).f7, .int .i64 (rd_T32 l0 a1).f8, .int .i64 0, .int .i64 0, .slice none 0 0]) (blk_put (cs := #[.int .i64 (rd_T32 l0 a1).f0, .int .i64 (rd_T32 l0 a1).f1, .int .i64 (rd_T32 l0 a1).f2, .int .i64 (rd_T32 l0 a1).f3, .int .i64 (rd_T32 l0 a1).f4, .int .i64 (rd_T32 l0 a1).f5, .int .i64 (rd_T32 l0 a1).f6, .int .i64 (rd_T32 l0 a1).f7, .int .i64 0, .int .i64 0, .int .i64 0, .slice none 0 0]) (blk_put (cs := #[.int .i64 (rd_T32 l0 a1).f0, .int .i64 (rd_T32 l0 a1).f1, .int .i64 (rd_T32 l0 a1).f2, .int .i64 (rd_T32 l0 a1).f3, .int .i64 (rd_T32 l0 a1).f4, .int .i64 (rd_T32 l0 a1).f5, .int .i64 (rd_T32 l0 a1).f6, .int .i64 0, .int .i64 0, .int .i64 0, .int .i64 0, .slice none 0 0]) (blk_put (cs := #[.int .i64 (rd_T32 l0 a1).f0, .int .i64 (rd_T32 l0 a1).f1, .int .i64 (rd_T32 l0 a1).f2, .int .i64 (rd_T32 l0 a1).f3, .int .i64 (rd_T32 l0 a1).f4, .int .i64 (rd_T32 l0 a1).f5, .int .i64 0, .int .i64 0, .int .i64 0, .int .i64 0, .int .i64 0, .slice none 0 0]) (blk_put (cs := #[.int .i64 (rd_T32 l0 a1).f0, .int .i64 (rd_T32 l0 a1).f1, .int .i64 (rd_T32 l0 a1).f2, .int .i64 (rd_T32 l0 a1).f3, .int .i64 (rd_T32 l0 a1).f4, .int .i64 0, .int .i64 0, .int .i64 0, .int .i64 0, .int .i64 0, .int .i64 0, .slice none 0 0]) (blk_put (cs := #[.int .i64 (rd_T32 l0 a1).f0, .int .i64 (rd_T32 l0 a1).f1, .int .i64 (rd_T32 l0 a1).f2, .int .i64 (rd_T32 l0 a1).f3, .int .i64 0, .int .i64 0, .int .i64 0, .int .i64 0, .int .i64 0, .int .i64 0, .int .i64 0, .slice none 0 0]) (blk_put (cs := #[.int .i64 (rd_T32 l0 a1).f0, .int .i64 (rd_T32 l0 a1).f1, .int .i64 (rd_T32 l0 a1).f2, .int .i64 0, .int .i64 0, .int .i64 0, .int .i64 0, .int .i64 0, .int .i64 0, .int .i64 0, .int .i64 0, .slice none 0 0]) (blk_put (cs := #[.int .i64 (rd_T32 l0 a1).f0, .int .i64 (rd_T32 l0 a1).f1, .int .i64 0, .int .i64 0, .int .i64 0, .int .i64 0, .int .i64 0, .int .i64 0, .int .i64 0, .int .i64 0, .int .i64 0, .slice none 0 0]) (blk_put (cs := #[.int .i64 (rd_T32 l0 a1).f0, .int .i64 0, .int .i64 0, .int .i64 0, .int .i64 0, .int .i64 0, .int .i64 0, .int .i64 0, .int .i64 0, .int .i64 0, .int .i64 0, .slice none 0 0]) (blk_put (cs := #[.int .i64 0, .int .i64 0, .int .i64 0, .int .i64 0, .int .i64 0, .int .i64 0, .int .i64 0, .int .i64 0, .int .i64 0, .int .i64 0, .int .i64 0, .slice none 0 0]) BK108.out 0 _ rfl) 1 _ rfl) 2 _ rfl) 3 _ rfl) 4 _ rfl) 5 _ rfl) 6 _ rfl) 7 _ rfl) 8 _ rfl) 9 _ rfl) 10 _ rfl) 11 _ rfl)⟩
     have n1_ : Aside0 (((((((((((((w75.setCell ⟨gb108, 0, none⟩ (.int .i64 (rd_T32 l0 a1).f0)).setCell ⟨gb108, 1, none⟩ (.int .i64 (rd_T32 l0 a1).f1)).setCell ⟨gb108, 2, none⟩ (.int .i64 (rd_T32 l0 a1).f2)).setCell ⟨gb108, 3, none⟩ (.int .i64 (rd_T32 l0 a1).f3)).setCell ⟨gb108, 4, none⟩ (.int .i64 (rd_T32 l0 a1).f4)).setCell ⟨gb108, 5, none⟩ (.int .i64 (rd_T32 l0 a1).f5)).setCell ⟨gb108, 6, none⟩ (.int .i64 (rd_T32 l0 a1).f6)).setCell ⟨gb108, 7, none⟩ (.int .i64 (rd_T32 l0 a1).f7)).setCell ⟨gb108, 8, none⟩ (.int .i64 (rd_T32 l0 a1).f8)).setCell ⟨gb108, 9, none⟩ (.int .i64 (rd_T32 l0 a1).f9)).setCell ⟨gb108, 10, none⟩ (.int .i64 (rd_T32 l0 a1).f10)).setCell ⟨gb108, 11, none⟩ (.slice A106_11 (rd_T32 l0 a1).f11.length c106_11)).heap[gb109]? = some (.cells #[.int .i64 0, .int .i64 0, .int .i64 0, .int .i64 0, .int .i64 0, .int .i64 0, .int .i64 0, .int .i64 0, .int .i64 0, .int .i64 0, .int .i64 0, .slice none 0 0] 32 (0, 0))) := ⟨(blk_far (blk_far (blk_far (blk_far (blk_far (blk_far (blk_far (blk_far (blk_far (blk_far (blk_far (blk_far BK109.out NB109_108.out _) NB109_108.out _) NB109_108.out _) NB109_108.out _) NB109_108.out _) NB109_108.out _) NB109_108.out _) NB109_108.out _) NB109_108.out _) NB109_108.out _) NB109_108.out _) NB109_108.out _)⟩
     have n2_ : Aside0 (Below w.heap.size w ((((((((((((w75.setCell ⟨gb108, 0, none⟩ (.int .i64 (rd_T32 l0 a1).f0)).setCell ⟨gb108, 1, none⟩ (.int .i64 (rd_T32 l0 a1).f1)).setCell ⟨gb108, 2, none⟩ (.int .i64 (rd_T32 l0 a1).f2)).setCell ⟨gb108, 3, none⟩ (.int .i64 (rd_T32 l0 a1).f3)).setCell ⟨gb108, 4, none⟩ (.int .i64 (rd_T32 l0 a1).f4)).setCell ⟨gb108, 5, none⟩ (.int .i64 (rd_T32 l0 a1).f5)).setCell ⟨gb108, 6, none⟩ (.int .i64 (rd_T32 l0 a1).f6)).setCell ⟨gb108, 7, none⟩ (.int .i64 (rd_T32 l0 a1).f7)).setCell ⟨gb108, 8, none⟩ (.int .i64 (rd_T32 l0 a1).f8)).setCell ⟨gb108, 9, none⟩ (.int .i64 (rd_T32 l0 a1).f9)).setCell ⟨gb108, 10, none⟩ (.int .i64 (rd_T32 l0 a1).f10)).setCell ⟨gb108, 11, none⟩ (.slice A106_11 (rd_T32 l0 a1).f11.length c106_11))) := ⟨(below_set (below_set (below_set (below_set (below_set (below_set (below_set (below_set (below_set (below_set (below_set (below_set HB.out GE108.out) GE108.out) GE108.out) GE108.out) GE108.out) GE108.out) GE108.out) GE108.out) GE108.out) GE108.out) GE108.out) GE108.out)⟩
     clear BK108 BK109 HB
     generalize ((((((((((((w75.setCell ⟨gb108, 0, none⟩ (.int .i64 (rd_T32 l0 a1).f0)).setCell ⟨gb108, 1, none⟩ (.int .i64 (rd_T32 l0 a1).f1)).setCell ⟨gb108, 2, none⟩ (.int .i64 (rd_T32 l0 a1).f2)).setCell ⟨gb108, 3, none⟩ (.int .i64 (rd_T32 l0 a1).f3)).setCell ⟨gb108, 4, none⟩ (.int .i64 (rd_T32 l0 a1).f4)).setCell ⟨gb108, 5, none⟩ (.int .i64 (rd_T32 l0 a1).f5)).setCell ⟨gb108, 6, none⟩ (.int .i64 (rd_T32 l0 a1).f6)).setCell ⟨gb108, 7, none⟩ (.int .i64 (rd_T32 l0 a1).f7)).setCell ⟨gb108, 8, none⟩ (.int .i64 (rd_T32 l0 a1).f8)).setCell ⟨gb108, 9, none⟩ (.int .i64 (rd_T32 l0 a1).f9)).setCell ⟨gb108, 10, none⟩ (.int .i64 (rd_T32 l0 a1).f10)).setCell ⟨gb108, 11, none⟩ (.slice A106_11 (rd_T32 l0 a1).f11.length c106_11)) = wa0 at n0_ n1_ n2_ ⊢
     have BK108 := n0_
     have BK109 := n1_
     have HB := n2_
     clear n0_ n1_ n2_
     refine hK.out _ _ ⟨((HB.out.cell (World.block_lt_of_cell? w _ hw106_0)).trans hw106_0), ((HB.out.cell (World.block_lt_of_cell? w _ hw106_1)).trans hw106_1), ((HB.out.cell (World.block_lt_of_cell? w _ hw106_2)).trans hw106_2), ((HB.out.cell (World.block_lt_of_cell? w _ hw106_3)).trans hw106_3), ((HB.out.cell (World.block_lt_of_cell? w _ hw106_4)).trans hw106_4), ((HB.out.cell (World.block_lt_of_cell? w _ hw106_5)).trans hw106_5), ((HB.out.cell (World.block_lt_of_cell? w _ hw106_6)).trans hw106_6), ((HB.out.cell (World.block_lt_of_cell? w _ hw106_7)).trans hw106_7), ((HB.out.cell (World.block_lt_of_cell? w _ hw106_8)).trans hw106_8), ((HB.out.cell (World.block_lt_of_cell? w _ hw106_9)).trans hw106_9), ((HB.out.cell (World.block_lt_of_cell? w _ hw106_10)).trans hw106_10), ((HB.out.cell (World.block_lt_of_cell? w _ hw106_11)).trans hw106_11), ((HB.out.cell (World.block_lt_of_cell? w _ hw107_0)).trans hw107_0), ((HB.out.cell (World.block_lt_of_cell? w _ hw107_1)).trans hw107_1), ((HB.out.cell (World.block_lt_of_cell? w _ hw107_2)).trans hw107_2), ((HB.out.cell (World.block_lt_of_cell? w _ hw107_3)).trans hw107_3), ((HB.out.cell (World.block_lt_of_cell? w _ hw107_4)).trans hw107_4), ((HB.out.cell (World.block_lt_of_cell? w _ hw107_5)).trans hw107_5), ((HB.out.cell (World.block_lt_of_cell? w _ hw107_6)).trans hw107_6), ((HB.out.cell (World.block_lt_of_cell? w _ hw107_7)).trans hw107_7), ((HB.out.cell (World.block_lt_of_cell? w _ hw107_8)).trans hw107_8), ((HB.out.cell (World.block_lt_of_cell? w _ hw107_9)).trans hw107_9), ((HB.out.cell (World.block_lt_of_cell? w _ hw107_10)).trans hw107_10), ((HB.out.cell (World.block_lt_of_cell? w _ hw107_11)).trans hw107_11)⟩ (fun hHeld => ?_)
     clear hK; clear K
     refine one_ (i := 11) (N := none) #[true, true, true, true, true, true, true, true, true, true, true, true] rfl rfl (one_of HT_.out (by kernel_rfl)) (by decide) (fun K hK => ?_)
     have hs_0 : wa0.cell? ⟨gb109, 0, none⟩ = some (.int .i64 0) := (blk_cell BK109.out 0).trans rfl
     have hf_0 := blk_frozen BK109.out 0
     have hs_1 : wa0.cell? ⟨gb109, 1, none⟩ = some (.int .i64 0) := (blk_cell BK109.out 1).trans rfl
     have hf_1 := blk_frozen BK109.out 1
     have hs_2 : wa0.cell? ⟨gb109, 2, none⟩ = some (.int .i64 0) := (blk_cell BK109.out 2).trans rfl
     have hf_2 := blk_frozen BK109.out 2
     have hs_3 : wa0.cell? ⟨gb109, 3, none⟩ = some (.int .i64 0) := (blk_cell BK109.out 3).trans rfl
     have hf_3 := blk_frozen BK109.out 3
     have hs_4 : wa0.cell? ⟨gb109, 4, none⟩ = some (.int .i64 0) := (blk_cell BK109.out 4).trans rfl
     have hf_4 := blk_frozen BK109.out 4
     have hs_5 : wa0.cell? ⟨gb109, 5, none⟩ = some (.int .i64 0) := (blk_cell BK109.out 5).trans rfl
     have hf_5 := blk_frozen BK109.out 5
     have hs_6 : wa0.cell? ⟨gb109, 6, none⟩ = some (.int .i64 0) := (blk_cell BK109.out 6).trans rfl
     have hf_6 := blk_frozen BK109.out 6
     have hs_7 : wa0.cell? ⟨gb109, 7, none⟩ = some (.int .i64 0) := (blk_cell BK109.out 7).trans rfl
     have hf_7 := blk_frozen BK109.out 7
     have hs_8 : wa0.cell? ⟨gb109, 8, none⟩ = some (.int .i64 0) := (blk_cell BK109.out 8).trans rfl
     have hf_8 := blk_frozen BK109.out 8
     have hs_9 : wa0.cell? ⟨gb109, 9, none⟩ = some (.int .i64 0) := (blk_cell BK109.out 9).trans rfl
     have hf_9 := blk_frozen BK109.out 9
     have hs_10 : wa0.cell? ⟨gb109, 10, none⟩ = some (.int .i64 0) := (blk_cell BK109.out 10).trans rfl
     have hf_10 := blk_frozen BK109.out 10
     have hs_11 : wa0.cell? ⟨gb109, 11, none⟩ = some (.slice none 0 0) := (blk_cell BK109.out 11).trans rfl
     have hf_11 := blk_frozen BK109.out 11
     refine skip_ (w1 := ?_) (by rfl) rfl ?_ ?_
     rotate_left
     ·go_simp
      rfl
     clear hs_0 hf_0 hs_1 hf_1 hs_2 hf_2 hs_3 hf_3 hs_4 hf_4 hs_5 hf_5 hs_6 hf_6 hs_7 hf_7 hs_8 hf_8 hs_9 hf_9 hs_10 hf_10 hs_11 hf_11
     have n0_ : Aside0 (((((((((((((wa0.setCell ⟨gb109, 0, none⟩ (.int .i64 (rd_T32 l0 a2).f0)).setCell ⟨gb109, 1, none⟩ (.int .i64 (rd_T32 l0 a2).f1)).setCell ⟨gb109, 2, none⟩ (.int .i64 (rd_T32 l0 a2).f2)).setCell ⟨gb109, 3, none⟩ (.int .i64 (rd_T32 l0 a2).f3)).setCell ⟨gb109, 4, none⟩ (.int .i64 (rd_T32 l0 a2).f4)).setCell ⟨gb109, 5, none⟩ (.int .i64 (rd_T32 l0 a2).f5)).setCell ⟨gb109, 6, none⟩ (.int .i64 (rd_T32 l0 a2).f6)).setCell ⟨gb109, 7, none⟩ (.int .i64 (rd_T32 l0 a2).f7)).setCell ⟨gb109, 8, none⟩ (.int .i64 (rd_T32 l0 a2).f8)).setCell ⟨gb109, 9, none⟩ (.int .i64 (rd_T32 l0 a2).f9)).setCell ⟨gb109, 10, none⟩ (.int .i64 (rd_T32 l0 a2).f10)).setCell ⟨gb109, 11, none⟩ (.slice A107_11 (rd_T32 l0 a2).f11.length c107_11)).heap[gb109]? = some (.cells #[.int .i64 (rd_T32 l0 a2).f0, .int .i64 (rd_T32 l0 a2).f1, .int .i64 (rd_T32 l0 a2).f2, .int .i64 (rd_T32 l0 a2).f3, .int .i64 (rd_T32 l0 a2).f4, .int .i64 (rd_T32 l0 a2).f5, .int .i64 (rd_T32 l0 a2).f6, .int .i64 (rd_T32 l0 a2).f7, .int .i64 (rd_T32 l0 a2).f8, .int .i64 (rd_T32 l0 a2).f9, .int .i64 (rd_T32 l0 a2).f10, .slice A107_11 (rd_T32 l0 a2).f11.length c107_11] 32 (0, 0))) := ⟨(blk_put (cs := #[.int .i64 (rd_T32 l0 a2).f0, .int .i64 (rd_T32 l0 a2).f1, .int .i64 (rd_T32 l0 a2).f2, .int .i64 (rd_T32 l0 a2).f3, .int .i64 (rd_T32 l0 a2).f4, .int .i64 (rd_T32 l0 a2).f5, .int .i64 (rd_T32 l0 a2).f6, .int .i64 (rd_T32 l0 a2).f7, .int .i64 (rd_T32 l0 a2).f8, .int .i64 (rd_T32 l0 a2).f9, .int .i64 (rd_T32 l0 a2).f10, .slice none 0 0]) (blk_put (cs := #[.int .i64 (rd_T32 l0 a2).f0, .int .i64 (rd_T32 l0 a2).f1, .int .i64 (rd_T32 l0 a2).f2, .int .i64 (rd_T32 l0 a2).f3, .int .i64 (rd_T32 l0 a2).f4, .int .i64 (rd_T32 l0 a2).f5, .int .i64 (rd_T32 l0 a2).f6, .int .i64 (rd_T32 l0 a2).f7, .int .i64 (rd_T32 l0 a2).f8, .int .i64 (rd_T32 l0 a2).f9, .int .i64 0, .slice none 0 0]) (blk_put (cs := #[.int .i64 (rd_T32 l0 a2).f0, .int .i64 (rd_T32 l0 a2).f1, .int .i64 (rd_T32 l0 a2).f2, .int .i64 (rd_T32 l0 a2).f3, .int .i64 (rd_T32 l0 a2).f4, .int .i64 (rd_T32 l0 a2).f5, .int .i64 (rd_T32 l0 a2).f6, .int .i64 (rd_T32 l0 a2).f7, .int .i64 (rd_T32 l0 a2).f8, .int .i64 0, .int .i64 0, .slice none 0 0]) (blk_put (cs := #[.int .i64 (rd_T32 l0 a2).f0, .int .i64 (rd_T32 l0 a2).f1, .int .i64 (rd_T32 l0 a2).f2, .int .i64 (rd_T32 l0 a2).f3, .int .i64 (rd_T32 l0 a2).f4, .int .i64 (rd_T32 l0 a2).f5, .int .i64 (rd_T32 l0 a2).f6, .int .i64 (rd_T32 l0 a2).f7, .int .i64 0, .int .i64 0, .int .i64 0, .slice none 0 0]) (blk_put (cs := #[.int .i64 (rd_T32 l0 a2).f0, .int .i64 (rd_T32 l0 a2).f1, .int .i64 (rd_T32 l0 a2).f2, .int .i64 (rd_T32 l0 a2).f3, .int .i64 (rd_T32 l0 a2).f4, .int .i64 (rd_T32 l0 a2).f5, .int .i64 (rd_T32 l0 a2).f6, .int .i64 0, .int .i64 0, .int .i64 0, .int .i64 0, .slice none 0 0]) (blk_put (cs := #[.int .i64 (rd_T32 l0 a2).f0, .int .i64 (rd_T32 l0 a2).f1, .int .i64 (rd_T32 l0 a2).f2, .int .i64 (rd_T32 l0 a2).f3, .int .i64 (rd_T32 l0 a2).f4, .int .i64 (rd_T32 l0 a2).f5, .int .i64 0, .int .i64 0, .int .i64 0, .int .i64 0, .int .i64 0, .slice none 0 0]) (blk_put (cs := #[.int .i64 (rd_T32 l0 a2).f0, .int .i64 (rd_T32 l0 a2).f1, .int .i64 (rd_T32 l0 a2).f2, .int .i64 (rd_T32 l0 a2).f3, .int .i64 (rd_T32 l0 a2).f4, .int .i64 0, .int .i64 0, .int .i64 0, .int .i64 0, .int .i64 0, .int .i64 0, .slice none 0 0]) (blk_put (cs := #[.int .i64 (rd_T32 l0 a2).f0, .int .i64 (rd_T32 l0 a2).f1, .int .i64 (rd_T32 l0 a2).f2, .int .i64 (rd_T32 l0 a2).f3, .int .i64 0, .int .i64 0, .int .i64 0, .int .i64 0, .int .i64 0, .int .i64 0, .int .i64 0, .slice none 0 0]) (blk_put (cs := #[.int .i64 (rd_T32 l0 a2).f0, .int .i64 (rd_T32 l0 a2).f1, .int .i64 (rd_T32 l0 a2).f2, .int .i64 0, .int .i64 0, .int .i64 0, .int .i64 0, .int .i64 0, .int .i64 0, .int .i64 0, .int .i64 0, .slice none 0 0]) (blk_put (cs := #[.int .i64 (rd_T32 l0 a2).f0, .int .i64 (rd_T32 l0 a2).f1, .int .i64 0, .int .i64 0, .int .i64 0, .int .i64 0, .int .i64 0, .int .i64 0, .int .i64 0, .int .i64 0, .int .i64 0, .slice none 0 0]) (blk_put (cs := #[.int .i64 (rd_T32 l0 a2).f0, .int .i64 0, .int .i64 0, .int .i64 0, .int .i64 0, .int .i64 0, .int .i64 0, .int .i64 0, .int .i64 0, .int .i64 0, .int .i64 0, .slice none 0 0]) (blk_put (cs := #[.int .i64 0, .int .i64 0, .int .i64 0, .int .i64 0, .int .i64 0, .int .i64 0, .int .i64 0, .int .i64 0, .int .i64 0, .int .i64 0, .int .i64 0, .slice none 0 0]) BK109.out 0 _ rfl) 1 _ rfl) 2 _ rfl) 3 _ rfl) 4 _ rfl) 5 _ rfl) 6 _ rfl) 7 _ rfl) 8 _ rfl) 9 _ rfl) 10 _ rfl) 11 _ rfl)⟩
     have n1_ : Aside0 (((((((((((((wa0.setCell ⟨gb109, 0, none⟩ (.int .i64 (rd_T32 l0 a2).f0)).setCell ⟨gb109, 1, none⟩ (.int .i64 (rd_T32 l0 a2).f1)).setCell ⟨gb109, 2, none⟩ (.int .i64 (rd_T32 l0 a2).f2)).setCell ⟨gb109, 3, none⟩ (.int .i64 (rd_T32 l0 a2).f3)).setCell ⟨gb109, 4, none⟩ (.int .i64 (rd_T32 l0 a2).f4)).setCell ⟨gb109, 5, none⟩ (.int .i64 (rd_T32 l0 a2).f5)).setCell ⟨gb109, 6, none⟩ (.int .i64 (rd_T32 l0 a2).f6)).setCell ⟨gb109, 7, none⟩ (.int .i64 (rd_T32 l0 a2).f7)).setCell ⟨gb109, 8, none⟩ (.int .i64 (rd_T32 l0 a2).f8)).setCell ⟨gb109, 9, none⟩ (.int .i64 (rd_T32 l0 a2).f9)).setCell ⟨gb109, 10, none⟩ (.int .i64 (rd_T32 l0 a2).f10)).setCell ⟨gb109, 11, none⟩ (.slice A107_11 (rd_T32 l0 a2).f11.length c107_11)).heap[gb108]? = some (.cells #[.int .i64 (rd_T32 l0 a1).f0, .int .i64 (rd_T32 l0 a1).f1, .int .i64 (rd_T32 l0 a1).f2, .int .i64 (rd_T32 l0 a1).f3, .int .i64 (rd_T32 l0 a1).f4, .int .i64 (rd_T32 l0 a1).f5, .int .i64 (rd_T32 l0 a1).f6, .int .i64 (rd_T32 l0 a1).f7, .int .i64 (rd_T32 l0 a1).f8, .int .i64 (rd_T32 l0 a1).f9, .int .i64 (rd_T32 l0 a1).f10, .slice A106_11 (rd_T32 l0 a1).f11.length c106_11] 32 (0, 0))) := ⟨(blk_far (blk_far (blk_far (blk_far (blk_far (blk_far (blk_far (blk_far (blk_far (blk_far (blk_far (blk_far BK108.out NB108_109.out _) NB108_109.out _) NB108_109.out _) NB108_109.out _) NB108_109.out _) NB108_109.out _) NB108_109.out _) NB108_109.out _) NB108_109.out _) NB108_109.out _) NB108_109.out _) NB108_109.out _)⟩
     have n2_ : Aside0 (Below w.heap.size w ((((((((((((wa0.setCell ⟨gb109, 0, none⟩ (.int .i64 (rd_T32 l0 a2).f0)).setCell ⟨gb109, 1, none⟩ (.int .i64 (rd_T32 l0 a2).f1)).setCell ⟨gb109, 2, none⟩ (.int .i64 (rd_T32 l0 a2).f2)).setCell ⟨gb109, 3, none⟩ (.int .i64 (rd_T32 l0 a2).f3)).setCell ⟨gb109, 4, none⟩ (.int .i64 (rd_T32 l0 a2).f4)).setCell ⟨gb109, 5, none⟩ (.int .i64 (rd_T32 l0 a2).f5)).setCell ⟨gb109, 6, none⟩ (.int .i64 (rd_T32 l0 a2).f6)).setCell ⟨gb109, 7, none⟩ (.int .i64 (rd_T32 l0 a2).f7)).setCell ⟨gb109, 8, none⟩ (.int .i64 (rd_T32 l0 a2).f8)).setCell ⟨gb109, 9, none⟩ (.int .i64 (rd_T32 l0 a2).f9)).setCell ⟨gb109, 10, none⟩ (.int .i64 (rd_T32 l0 a2).f10)).setCell ⟨gb109, 11, none⟩ (.slice A107_11 (rd_T32 l0 a2).f11.length c107_11))) := ⟨(below_set (below_set (below_set (below_set (below_set (below_set (below_set (below_set (below_set (below_set (below_set (below_set HB.out GE109.out) GE109.out) GE109.out) GE109.out) GE109.out) GE109.out) GE109.out) GE109.out) GE109.out) GE109.out) GE109.out) GE109.out)⟩
     clear BK108 BK109 HB
     generalize ((((((((((((wa0.setCell ⟨gb109, 0, none⟩ (.int .i64 (rd_T32 l0 a2).f0)).setCell ⟨gb109, 1, none⟩ (.int .i64 (rd_T32 l0 a2).f1)).setCell ⟨gb109, 2, none⟩ (.int .i64 (rd_T32 l0 a2).f2)).setCell ⟨gb109, 3, none⟩ (.int .i64 (rd_T32 l0 a2).f3)).setCell ⟨gb109, 4, none⟩ (.int .i64 (rd_T32 l0 a2).f4)).setCell ⟨gb109, 5, none⟩ (.int .i64 (rd_T32 l0 a2).f5)).setCell ⟨gb109, 6, none⟩ (.int .i64 (rd_T32 l0 a2).f6)).setCell ⟨gb109, 7, none⟩ (.int .i64 (rd_T32 l0 a2).f7)).setCell ⟨gb109, 8, none⟩ (.int .i64 (rd_T32 l0 a2).f8)).setCell ⟨gb109, 9, none⟩ (.int .i64 (rd_T32 l0 a2).f9)).setCell ⟨gb109, 10, none⟩ (.int .i64 (rd_T32 l0 a2).f10)).setCell ⟨gb109, 11, none⟩ (.slice A107_11 (rd_T32 l0 a2).f11.length c107_11)) = wa1 at n0_ n1_ n2_ ⊢
     have BK109 := n0_
     have BK108 := n1_
     have HB := n2_
     clear n0_ n1_ n2_
     refine hK.out _ _ ⟨((HB.out.cell (World.block_lt_of_cell? w _ hw106_0)).trans hw106_0), ((HB.out.cell (World.block_lt_of_cell? w _ hw106_1)).trans hw106_1), ((HB.out.cell (World.block_lt_of_cell? w _ hw106_2)).trans hw106_2), ((HB.out.cell (World.block_lt_of_cell? w _ hw106_3)).trans hw106_3), ((HB.out.cell (World.block_lt_of_cell? w _ hw106_4)).trans hw106_4), ((HB.out.cell (World.block_lt_of_cell? w _ hw106_5)).trans hw106_5), ((HB.out.cell (World.block_lt_of_cell? w _ hw106_6)).trans hw106_6), ((HB.out.cell (World.block_lt_of_cell? w _ hw106_7)).trans hw106_7), ((HB.out.cell (World.block_lt_of_cell? w _ hw106_8)).trans hw106_8), ((HB.out.cell (World.block_lt_of_cell? w _ hw106_9)).trans hw106_9), ((HB.out.cell (World.block_lt_of_cell? w _ hw106_10)).trans hw106_10), ((HB.out.cell (World.block_lt_of_cell? w _ hw106_11)).trans hw106_11), ((HB.out.cell (World.block_lt_of_cell? w _ hw107_0)).trans hw107_0), ((HB.out.cell (World.block_lt_of_cell? w _ hw107_1)).trans hw107_1), ((HB.out.cell (World.block_lt_of_cell? w _ hw107_2)).trans hw107_2), ((HB.out.cell (World.block_lt_of_cell? w _ hw107_3)).trans hw107_3), ((HB.out.cell (World.block_lt_of_cell? w _ hw107_4)).trans hw107_4), ((HB.out.cell (World.block_lt_of_cell? w _ hw107_5)).trans hw107_5), ((HB.out.cell (World.block_lt_of_cell? w _ hw107_6)).trans hw107_6), ((HB.out.cell (World.block_lt_of_cell? w _ hw107_7)).trans hw107_7), ((HB.out.cell (World.block_lt_of_cell? w _ hw107_8)).trans hw107_8), ((HB.out.cell (World.block_lt_of_cell? w _ hw107_9)).trans hw107_9), ((HB.out.cell (World.block_lt_of_cell? w _ hw107_10)).trans hw107_10), ((HB.out.cell (World.block_lt_of_cell? w _ hw107_11)).trans hw107_11)⟩ (fun hHeld => ?_)
     clear hK; clear K
     refine done_ (done_of HT_.out (by kernel_rfl)) ?_
     have hd108_0 : wa1.cell? ⟨gb108, 0, none⟩ = some (.int .i64 (rd_T32 l0 a1).f0) := (blk_cell BK108.out 0).trans rfl
     have hd108_5 : wa1.cell? ⟨gb108, 5, none⟩ = some (.int .i64 (rd_T32 l0 a1).f5) := (blk_cell BK108.out 5).trans rfl
     have hd109_0 : wa1.cell? ⟨gb109, 0, none⟩ = some (.int .i64 (rd_T32 l0 a2).f0) := (blk_cell BK109.out 0).trans rfl
     have hd109_5 : wa1.cell? ⟨gb109, 5, none⟩ = some (.int .i64 (rd_T32 l0 a2).f5) := (blk_cell BK109.out 5).trans rfl
     by_cases c8 : ((rd_T32 l0 a1).f5) = ((rd_T32 l0 a2).f5)
     ·rw [if_pos c8] at H
      have c8b0 : (((rd_T32 l0 a1).f5) == ((rd_T32 l0 a2).f5)) = true := beq_iff_eq.mpr c8
      have c8b1 : (((rd_T32 l0 a1).f5) != ((rd_T32 l0 a2).f5)) = false := bne_eq_false_iff_eq.mpr c8
      clear c8
      by_cases c9 : ((rd_T32 l0 a1).f0) = ((rd_T32 l0 a2).f0)
      ·rw [if_pos c9] at H
       have c9b0 : (((rd_T32 l0 a1).f0) == ((rd_T32 l0 a2).f0)) = true := beq_iff_eq.mpr c9
       have c9b1 : (((rd_T32 l0 a1).f0) != ((rd_T32 l0 a2).f0)) = false := bne_eq_false_iff_eq.mpr c9
       clear c9
       obtain rfl := Option.some.inj H
       try go_wp2
       go_ret
       exact ⟨by first | rfl | (simp [errW_none, errW_some] <;> rfl) | (simp [*, errW_none, errW_some] <;> rfl), by repeat (first | (with_reducible first | exact HB.out | apply below_alloc | apply pw_below_drewN | apply below_drew1 | refine below_set ?_ GE108.out | refine below_set ?_ GE109.out) | exact HB.out)⟩
      ·rw [if_neg c9] at H
       have c9b0 : (((rd_T32 l0 a1).f0) == ((rd_T32 l0 a2).f0)) = false := beq_eq_false_iff_ne.mpr c9
       have c9b1 : (((rd_T32 l0 a1).f0) != ((rd_T32 l0 a2).f0)) = true := bne_iff_ne.mpr c9
       obtain rfl := Option.some.inj H
       try go_wp2
       go_ret
       exact ⟨by first | rfl | (simp [errW_none, errW_some] <;> rfl) | (simp [*, errW_none, errW_some] <;> rfl), by repeat (first | (with_reducible first | exact HB.out | apply below_alloc | apply pw_below_drewN | apply below_drew1 | refine below_set ?_ GE108.out | refine below_set ?_ GE109.out) | exact HB.out)⟩
     ·rw [if_neg c8] at H
      have c8b0 : (((rd_T32 l0 a1).f5) == ((rd_T32 l0 a2).f5)) = false := beq_eq_false_iff_ne.mpr c8
      have c8b1 : (((rd_T32 l0 a1).f5) != ((rd_T32 l0 a2).f5)) = true := bne_iff_ne.mpr c8
      obtain rfl := Option.some.inj H
      try go_wp2
      go_ret
      exact ⟨by first | rfl | (simp [errW_none, errW_some] <;> rfl) | (simp [*, errW_none, errW_some] <;> rfl), by repeat (first | (with_reducible first | exact HB.out | apply below_alloc | apply pw_below_drewN | apply below_drew1 | refine below_set ?_ GE108.out | refine below_set ?_ GE109.out) | exact HB.out)⟩
    ·rw [if_neg c7] at H
     exact absurd H (by simp)
   ·rw [if_neg c6] at H
    exact absurd H (by simp)
  ·rw [if_neg c5] at H
   exact absurd H (by simp)
 ·rw [if_neg c4] at H
  exact absurd H (by simp)

end Go.Proofs.Ytkhfgflcanmefaa.PAll
end
section
namespace Go.Proofs.Ytkhfgflcanmefaa.PAll
open Go.RowKit Go.Proofs.YtkhfgflcanmefaaW.PrintWords Go.Proofs.YtkhfgflcanmefaaW.PrintLast Go.Proofs.YtkhfgflcanmefaaW.PrintMore
attribute [local go_sem] max2_int min2_int max_two min_two max_three min_three max_four min_four   -- for this text's walks alone
set_option linter.unusedVariables false
set_option linter.unusedSimpArgs false

mutual
def prebendref15_Order.l0 : Nat → List (S32) → List Int → Int → Option (List Int)
  | 0, _, _, _ => none
  | k + 1, x0, x3, x4 => if x4 < (x0.length : Int) then (if 0 ≤ x4 then (if ((rd_T32 x0 x4).f7) = 1 then (prebendref15_Order.l1 k x0 x3 x4 (x3.length : Int)) else (prebendref15_Order.l0 k x0 x3 (wrap64 (x4 + 1)))) else (none)) else (some x3)
def prebendref15_Order.l1 : Nat → List (S32) → List Int → Int → Int → Option (List Int)
  | 0, _, _, _, _ => none
  | k + 1, x0, x3, x4, x5 => if x5 > 0 then (if 0 ≤ (wrap64 (x5 - 1)) then (if (wrap64 (x5 - 1)) < (x3.length : Int) then ((prebendref15_ahead.f x0 x4 (rd x3 (wrap64 (x5 - 1)))).bind fun t111 => (if t111 = true then (prebendref15_Order.l1 k x0 x3 x4 (wrap64 (x5 - 1))) else ((some (([] : List Int) : List Int)).bind fun y112 => (if 0 ≤ x5 then (if x5 ≤ (x3.length : Int) then ((some (x3.take (x5 : Int).toNat : List Int)).bind fun y115 => (if y112.length + y115.length < 17592186044416 then ((some (y112 ++ y115 : List Int)).bind fun y119 => ((some (([x4] : List Int) : List Int)).bind fun y122 => (if y119.length + y122.length < 17592186044416 then ((some (y119 ++ y122 : List Int)).bind fun y125 => ((some (x3.drop (x5 : Int).toNat : List Int)).bind fun y128 => (if y125.length + y128.length < 17592186044416 then (prebendref15_Order.l0 k x0 (y125 ++ y128) (wrap64 (x4 + 1))) else (none)))) else (none)))) else (none))) else (none)) else (none))))) else (none)) else (none)) else ((some (([] : List Int) : List Int)).bind fun y135 => (if 0 ≤ x5 then (if x5 ≤ (x3.length : Int) then ((some (x3.take (x5 : Int).toNat : List Int)).bind fun y138 => (if y135.length + y138.length < 17592186044416 then ((some (y135 ++ y138 : List Int)).bind fun y142 => ((some (([x4] : List Int) : List Int)).bind fun y145 => (if y142.length + y145.length < 17592186044416 then ((some (y142 ++ y145 : List Int)).bind fun y148 => ((some (x3.drop (x5 : Int).toNat : List Int)).bind fun y151 => (if y148.length + y151.length < 17592186044416 then (prebendref15_Order.l0 k x0 (y148 ++ y151) (wrap64 (x4 + 1))) else (none)))) else (none)))) else (none))) else (none)) else (none)))
end
def prebendref15_Order.f (k : Nat) (l0 : List (S32)) : Option (List Int) := prebendref15_Order.l0 k l0 (([] : List Int)) 0
theorem prebendref15_Order.mono_l : ∀ k, (∀ y0 y1 y2, LeO (prebendref15_Order.l0 k y0 y1 y2) (prebendref15_Order.l0 (k + 1) y0 y1 y2)) ∧ (∀ y0 y1 y2 y3, LeO (prebendref15_Order.l1 k y0 y1 y2 y3) (prebendref15_Order.l1 (k + 1) y0 y1 y2 y3))
  | 0 => ⟨fun _ _ _ r h => by simp [prebendref15_Order.l0] at h, fun _ _ _ _ r h => by simp [prebendref15_Order.l1] at h⟩
  | k + 1 => by
    obtain ⟨ih0, ih1⟩ := prebendref15_Order.mono_l k
    refine ⟨?_, ?_⟩
    · intro y0 y1 y2
      unfold prebendref15_Order.l0
      repeat' first
      | (with_reducible exact ih0 _ _ _)
      | (with_reducible exact ih1 _ _ _ _)
      | (with_reducible exact LeO.refl _)
      | (with_reducible exact LeO.none _)
      | (with_reducible refine LeO.ite ?_ ?_)
      | (with_reducible refine LeO.bind ?_ (fun _ => ?_))
      | exact ih0 _ _ _
      | exact ih1 _ _ _ _
      | exact LeO.none _
      | refine LeO.ite ?_ ?_
      | refine LeO.bind ?_ (fun _ => ?_)
    · intro y0 y1 y2 y3
      unfold prebendref15_Order.l1
      repeat' first
      | (with_reducible exact ih0 _ _ _)
      | (with_reducible exact ih1 _ _ _ _)
      | (with_reducible exact LeO.refl _)
      | (with_reducible exact LeO.none _)
      | (with_reducible refine LeO.ite ?_ ?_)
      | (with_reducible refine LeO.bind ?_ (fun _ => ?_))
      | exact ih0 _ _ _
      | exact ih1 _ _ _ _
      | exact LeO.none _
      | refine LeO.ite ?_ ?_
      | refine LeO.bind ?_ (fun _ => ?_)
theorem prebendref15_Order.mono : ∀ a0 k, LeO (prebendref15_Order.f k a0) (prebendref15_Order.f (k + 1) a0) := by
  intro a0 k
  obtain ⟨ih0, ih1⟩ := prebendref15_Order.mono_l k
  unfold prebendref15_Order.f
  repeat' first
      | (with_reducible exact ih0 _ _ _)
      | (with_reducible exact ih1 _ _ _ _)
      | (with_reducible exact LeO.refl _)
      | (with_reducible exact LeO.none _)
      | (with_reducible refine LeO.ite ?_ ?_)
      | (with_reducible refine LeO.bind ?_ (fun _ => ?_))
      | exact ih0 _ _ _
      | exact ih1 _ _ _ _
      | exact LeO.none _
      | refine LeO.ite ?_ ?_
      | refine LeO.bind ?_ (fun _ => ?_)
def prebendref15_Order.T9 : Bool × List (List Nat × List Nat) := (true, [([], []), ([], []), ([], []), ([1, 2], [1, 2]), ([0, 3], [0, 3]), ([], []), ([5], [5]), ([4, 6, 4], [4, 6]), ([], []), ([], []), ([8, 9], [8, 9]), ([7, 10, 7], [7, 10]), ([11, 11, 0, 1, 2, 3, 4, 5, 6, 7, 8, 9, 10, 11], [1, 8, 11])])
def prebendref15_Order.B9 : List Nat := [0, 0, 0, 6, 15, 0, 32, 127, 0, 0, 768, 2047, 4095]
theorem prebendref15_Order.tab9 : rtab .any (opsOf Try.f10 9) = prebendref15_Order.T9 := by kernel_rfl
theorem prebendref15_Order.bits9 : waitsOk prebendref15_Order.T9.2 prebendref15_Order.B9 = true := by kernel_rfl
set_option maxHeartbeats 8000000 in
set_option maxRecDepth 100000 in
theorem prebendref15_Order.calls (k : Nat) (A0 : Option Addr) (c0 : Nat) (l0 : List (S32)) (r : List Int) (w : World) (hr0 : Kd.C k32 w A0 l0.length l0) (hc0 : l0.length ≤ c0) (h : prebendref15_Order.f k l0 = some r) :
    Calls Try.prog 10 #[.slice A0 l0.length c0] w fun e w' => ∃ v0_ : Value, e = .returned (v0_) ∧ Kd.R (Kd.int .i64) 3 w' w.heap.size (fun _ => True) v0_ r ∧ Below w.heap.size w w' := by
  have HR0 := Aside0.mk hr0
  have HC0 := Aside0.mk hc0
  clear hr0 hc0
  have HB := Aside0.mk (Below.refl w.heap.size w)
  have H : (prebendref15_Order.l0 k l0 (([] : List Int)) 0) = some r := h
  clear h
  obtain ⟨y106, hy106⟩ : ∃ y_ : List Int, y_ = (([] : List Int)) := ⟨_, rfl⟩
  replace H : (prebendref15_Order.l0 k l0 y106 0) = some r := by first | (rw [hy106]; with_reducible exact H) | (have H2_ := (Option.bind_some _ _).symm.trans H; rw [hy106]; with_reducible exact H2_) | (have H2_ := (Option.bind_some _ _).symm.trans H; with_reducible exact H2_) | with_reducible exact H | (rw [hy106]; exact H) | exact H
  have Ny106 := Aside0.mk hy106
  clear hy106
  have H' := Aside0.mk H
  clear H
  go_enter Try.func10, Try.ntmps10
  go_wp2_with (first | ((with_reducible refine gate_dst (N := 6) rfl ?_); refine Kd.R_lit (Kd.int .i64) _ 3 ?hg (N := 6) ?hd (xs := ([] : List Int)) (inner := []) (ok := fun _ => True) (okp := fun _ => True) ?hr ?hp (fun _ hk => hk) trivial (Below.refl _ _) (Nat.le_refl _) (by simp) ?_; (case hd => rfl); (case hg => rfl); (case hr => first | (go_simp; done) | (go_simp; rfl)); (case hp => exact (Reps.none _ _)); intro v107 w2 ho3 hb hg_ hnew_; clear hg_ hnew_; (first | rw [← Ny106.out] at ho3 | (simp only [Int.reduceToNat] at ho3; rw [← Ny106.out] at ho3)); have n0_ := Aside0.mk (Kd.R_lower ho3 (below_size (by repeat (first | (with_reducible first | exact HB.out | apply below_alloc | apply pw_below_drewN | apply below_drew1) | exact HB.out)))); have n1_ := Aside0.mk (below_step (by repeat (first | (with_reducible first | exact HB.out | apply below_alloc | apply pw_below_drewN | apply below_drew1) | exact HB.out)) hb); clear HB; have HO108 := n0_; have HB := n1_; clear n0_ n1_; clear hb ho3))
  go_loopg [3, 4] k (fun kq v3 v4 w' => ∃ (x3_1 : List Int) (x4_1 : Int), v4 = .int .i64 x4_1 ∧ Aside0 (prebendref15_Order.l0 kq l0 x3_1 x4_1 = some r) ∧ Aside0 (kq ≤ k) ∧ Aside0 (Kd.R (Kd.int .i64) 3 w' w.heap.size (fun _ => True) v3 x3_1) ∧ Aside0 (Below w.heap.size w w'))
  case atStart => exact ⟨(y106), (0), (by first | rfl | (simp; done) | (simp [*]; done)), H', ⟨Nat.le_refl _⟩, ⟨by (with_reducible repeat (first | apply Kd.R_alloc | apply Kd.R_drewN | apply Kd.R_drew)); exact HO108.out⟩, ⟨by repeat (first | (with_reducible first | exact HB.out | apply below_alloc | apply pw_below_drewN | apply below_drew1) | exact HB.out)⟩⟩
  case round =>
    clear H'
    try clear c1
    try clear p2
    obtain ⟨x3_1, x4_1, rfl, HA, HK1, HO_3, HB⟩ := hrel
    cases gk with
    | zero => exact absurd HA.out (by simp [prebendref15_Order.l0])
    | succ k1 =>
      have H := HA.out
      clear HA
      simp only [prebendref15_Order.l0] at H
      by_cases c4 : x4_1 < (l0.length : Int)
      · rw [if_pos c4] at H
        have c4b0 : decide (x4_1 < (l0.length : Int)) = true := decide_eq_true c4
        clear c4
        by_cases c5 : 0 ≤ x4_1
        · rw [if_pos c5] at H
          have c5b0 : decide (0 ≤ x4_1) = true := decide_eq_true c5
          clear c5
          by_cases c6 : ((rd_T32 l0 x4_1).f7) = 1
          · rw [if_pos c6] at H
            have c6b0 : (((rd_T32 l0 x4_1).f7) == 1) = true := beq_iff_eq.mpr c6
            have c6b1 : (((rd_T32 l0 x4_1).f7) != 1) = false := bne_eq_false_iff_eq.mpr c6
            clear c6
            have H' := Aside0.mk H
            clear H
            have p109 : 0 ≤ (x4_1 : Int) := of_decide_eq_true (by first | (with_reducible assumption) | assumption)
            have q109 : x4_1 < (l0.length : Int) := of_decide_eq_true (by first | (with_reducible assumption) | assumption)
            obtain ⟨ad109, A109_11, c109_11, e109, hx109_0, hx109_1, hx109_2, hx109_3, hx109_4, hx109_5, hx109_6, hx109_7, hx109_8, hx109_9, hx109_10, hx109_11, hl109_11, hi109_11⟩ := at_T32 HR0.out x4_1 p109 q109
            cases e109
            replace hx109_0 := (HB.out.cell (World.block_lt_of_cell? w _ hx109_0)).trans hx109_0
            replace hx109_1 := (HB.out.cell (World.block_lt_of_cell? w _ hx109_1)).trans hx109_1
            replace hx109_2 := (HB.out.cell (World.block_lt_of_cell? w _ hx109_2)).trans hx109_2
            replace hx109_3 := (HB.out.cell (World.block_lt_of_cell? w _ hx109_3)).trans hx109_3
            replace hx109_4 := (HB.out.cell (World.block_lt_of_cell? w _ hx109_4)).trans hx109_4
            replace hx109_5 := (HB.out.cell (World.block_lt_of_cell? w _ hx109_5)).trans hx109_5
            replace hx109_6 := (HB.out.cell (World.block_lt_of_cell? w _ hx109_6)).trans hx109_6
            replace hx109_7 := (HB.out.cell (World.block_lt_of_cell? w _ hx109_7)).trans hx109_7
            replace hx109_8 := (HB.out.cell (World.block_lt_of_cell? w _ hx109_8)).trans hx109_8
            replace hx109_9 := (HB.out.cell (World.block_lt_of_cell? w _ hx109_9)).trans hx109_9
            replace hx109_10 := (HB.out.cell (World.block_lt_of_cell? w _ hx109_10)).trans hx109_10
            replace hx109_11 := (HB.out.cell (World.block_lt_of_cell? w _ hx109_11)).trans hx109_11
            have HR109_11 := Aside0.mk hi109_11
            have HC109_11 := Aside0.mk hl109_11
            clear hi109_11 hl109_11
            replace p109 := eq_true p109
            replace q109 := eq_true q109
            obtain ⟨Ao7, co7, eo7⟩ := Kd.R_slice HO_3.out
            subst eo7
            go_wp2
            go_loopg [5] k1 (fun kq v5 w' => ∃ (x5_2 : Int), v5 = .int .i64 x5_2 ∧ Aside0 (prebendref15_Order.l1 kq l0 x3_1 x4_1 x5_2 = some r) ∧ Aside0 (kq ≤ k1) ∧ Aside0 (Kd.R (Kd.int .i64) 3 w' w.heap.size (fun _ => True) (.slice Ao7 x3_1.length co7) x3_1) ∧ Aside0 (Below w.heap.size w w'))
            case atStart => exact ⟨((x3_1.length : Int)), (by first | rfl | (simp; done) | (simp [*]; done)), H', ⟨Nat.le_refl _⟩, ⟨by (with_reducible repeat (first | apply Kd.R_alloc | apply Kd.R_drewN | apply Kd.R_drew)); exact HO_3.out⟩, ⟨by repeat (first | (with_reducible first | exact HB.out | apply below_alloc | apply pw_below_drewN | apply below_drew1) | exact HB.out)⟩⟩
            case round =>
              clear H'
              try clear c1
              try clear p1
              try clear q1
              try clear hx1
              try clear p2
              try clear c4
              try clear c4b0
              try clear c5
              try clear c5b0
              try clear c6
              try clear c6b0
              try clear c6b1
              try clear hx109_0
              try clear hx109_1
              try clear hx109_10
              try clear hx109_11
              try clear hx109_2
              try clear hx109_3
              try clear hx109_4
              try clear hx109_5
              try clear hx109_6
              try clear hx109_7
              try clear hx109_8
              try clear hx109_9
              try clear p109
              try clear p2
              try clear q109
              obtain ⟨x5_2, rfl, HA, HK2, HO_3, HB⟩ := hrel
              cases gk with
              | zero => exact absurd HA.out (by simp [prebendref15_Order.l1])
              | succ k2 =>
                have H := HA.out
                clear HA
                simp only [prebendref15_Order.l1] at H
                by_cases c8 : x5_2 > 0
                · rw [if_pos c8] at H
                  have c8b0 : decide (0 < x5_2) = true := decide_eq_true c8
                  clear c8
                  obtain ⟨ji9, hji9⟩ : ∃ j_ : Int, (wrap64 (x5_2 - 1)) = j_ := ⟨_, rfl⟩
                  replace H : (if 0 ≤ (ji9) then (if (ji9) < (x3_1.length : Int) then ((prebendref15_ahead.f l0 x4_1 (rd x3_1 (ji9))).bind fun t111 => (if t111 = true then (prebendref15_Order.l1 k2 l0 x3_1 x4_1 ji9) else ((some (([] : List Int) : List Int)).bind fun y112 => (if 0 ≤ x5_2 then (if x5_2 ≤ (x3_1.length : Int) then ((some (x3_1.take (x5_2 : Int).toNat : List Int)).bind fun y115 => (if y112.length + y115.length < 17592186044416 then ((some (y112 ++ y115 : List Int)).bind fun y119 => ((some (([x4_1] : List Int) : List Int)).bind fun y122 => (if y119.length + y122.length < 17592186044416 then ((some (y119 ++ y122 : List Int)).bind fun y125 => ((some (x3_1.drop (x5_2 : Int).toNat : List Int)).bind fun y128 => (if y125.length + y128.length < 17592186044416 then (prebendref15_Order.l0 k2 l0 (y125 ++ y128) (wrap64 (x4_1 + 1))) else (none)))) else (none)))) else (none))) else (none)) else (none))))) else (none)) else (none)) = some r := by first | (rw [hji9] at H; exact H) | (simp only [hji9] at H ⊢; exact H)
                  have hji9w : (IntKind.i64.wrap (x5_2 - 1)) = ji9 := (i64_w _).trans hji9
                  by_cases c10 : 0 ≤ (ji9)
                  · rw [if_pos c10] at H
                    have c10b0 : decide (0 ≤ (ji9)) = true := decide_eq_true c10
                    clear c10
                    by_cases c11 : (ji9) < (x3_1.length : Int)
                    · rw [if_pos c11] at H
                      have c11b0 : decide ((ji9) < (x3_1.length : Int)) = true := decide_eq_true c11
                      clear c11
                      replace H := Option.bind_eq_some_iff.mp H
                      obtain ⟨t111, A120, H⟩ := H
                      replace H : (if t111 = true then (prebendref15_Order.l1 k2 l0 x3_1 x4_1 ji9) else ((some (([] : List Int) : List Int)).bind fun y112 => (if 0 ≤ x5_2 then (if x5_2 ≤ (x3_1.length : Int) then ((some (x3_1.take (x5_2 : Int).toNat : List Int)).bind fun y115 => (if y112.length + y115.length < 17592186044416 then ((some (y112 ++ y115 : List Int)).bind fun y119 => ((some (([x4_1] : List Int) : List Int)).bind fun y122 => (if y119.length + y122.length < 17592186044416 then ((some (y119 ++ y122 : List Int)).bind fun y125 => ((some (x3_1.drop (x5_2 : Int).toNat : List Int)).bind fun y128 => (if y125.length + y128.length < 17592186044416 then (prebendref15_Order.l0 k2 l0 (y125 ++ y128) (wrap64 (x4_1 + 1))) else (none)))) else (none)))) else (none))) else (none)) else (none)))) = some r := H
                      have A12 := Aside0.mk A120
                      clear A120
                      by_cases c13 : t111 = true
                      · subst c13
                        have H1 : (prebendref15_Order.l1 k2 l0 x3_1 x4_1 ji9) = some r := by rw [if_pos rfl] at H; exact H
                        clear H
                        have H := H1
                        clear H1
                        have H' := Aside0.mk H
                        clear H
                        have p110 : 0 ≤ ((ji9) : Int) := of_decide_eq_true (by first | (with_reducible assumption) | assumption)
                        have q110 : (ji9) < (x3_1.length : Int) := of_decide_eq_true (by first | (with_reducible assumption) | assumption)
                        obtain ⟨ad110, e110, hx110_0⟩ := Kd.at_int (Kd.R_reads' HO_3.out).2.2 (ji9) p110 q110
                        cases e110
                        replace p110 := eq_true p110
                        replace q110 := eq_true q110
                        go_wp2_with (first | (go_at_call 31; (with_reducible refine (prebendref15_ahead.calls _ _ l0 x4_1 (rd x3_1 (ji9)) true _ ?side1 ?side2 A12.out).mono ?_); (case side1 => repeat (first | exact (Kd.C_below HR0.out HB.out) | (with_reducible refine Kd.C_alloc ?_ _) | (with_reducible refine Kd.C_drewN ?_ _) | (with_reducible refine Kd.C_drew ?_))); (case side2 => exact HC0.out); rintro e w14 ⟨rfl, hb⟩; have n0_ := Aside0.mk (Kd.R_below (by (with_reducible repeat (first | apply Kd.R_alloc | apply Kd.R_drewN | apply Kd.R_drew)); exact HO_3.out) hb); have n1_ := Aside0.mk (below_step (by repeat (first | (with_reducible first | exact HB.out | apply below_alloc | apply pw_below_drewN | apply below_drew1) | exact HB.out)) hb); clear HO_3; clear HB; have HO_3 := n0_; have HB := n1_; clear n0_ n1_; (try clear hb); (try clear hb2); (try clear hk); (try clear hi)))
                        go_roundg k2
                        case measure => have := HK1.out; have := HK2.out; omega
                        case rel => exact ⟨(ji9), (by first | rfl | (simp; done) | (simp only [← hji9] <;> (first | rfl | simp)) | (simp [*]; done)), H', ⟨by have := HK1.out; have := HK2.out; omega⟩, ⟨by (with_reducible repeat (first | apply Kd.R_alloc | apply Kd.R_drewN | apply Kd.R_drew)); exact HO_3.out⟩, ⟨by repeat (first | (with_reducible first | exact HB.out | apply below_alloc | apply pw_below_drewN | apply below_drew1) | exact HB.out)⟩⟩
                      · replace c13 := Bool.eq_false_iff.mpr c13
                        subst c13
                        have H1 : ((some (([] : List Int) : List Int)).bind fun y112 => (if 0 ≤ x5_2 then (if x5_2 ≤ (x3_1.length : Int) then ((some (x3_1.take (x5_2 : Int).toNat : List Int)).bind fun y115 => (if y112.length + y115.length < 17592186044416 then ((some (y112 ++ y115 : List Int)).bind fun y119 => ((some (([x4_1] : List Int) : List Int)).bind fun y122 => (if y119.length + y122.length < 17592186044416 then ((some (y119 ++ y122 : List Int)).bind fun y125 => ((some (x3_1.drop (x5_2 : Int).toNat : List Int)).bind fun y128 => (if y125.length + y128.length < 17592186044416 then (prebendref15_Order.l0 k2 l0 (y125 ++ y128) (wrap64 (x4_1 + 1))) else (none)))) else (none)))) else (none))) else (none)) else (none))) = some r := by rw [if_neg (show ¬ (false = true) by decide)] at H; exact H
                        clear H
                        have H := H1
                        clear H1
                        obtain ⟨y112, hy112⟩ : ∃ y_ : List Int, y_ = (([] : List Int)) := ⟨_, rfl⟩
                        replace H : (if 0 ≤ x5_2 then (if x5_2 ≤ (x3_1.length : Int) then ((some (x3_1.take (x5_2 : Int).toNat : List Int)).bind fun y115 => (if y112.length + y115.length < 17592186044416 then ((some (y112 ++ y115 : List Int)).bind fun y119 => ((some (([x4_1] : List Int) : List Int)).bind fun y122 => (if y119.length + y122.length < 17592186044416 then ((some (y119 ++ y122 : List Int)).bind fun y125 => ((some (x3_1.drop (x5_2 : Int).toNat : List Int)).bind fun y128 => (if y125.length + y128.length < 17592186044416 then (prebendref15_Order.l0 k2 l0 (y125 ++ y128) (wrap64 (x4_1 + 1))) else (none)))) else (none)))) else (none))) else (none)) else (none)) = some r := by first | (rw [hy112]; with_reducible exact H) | (have H2_ := (Option.bind_some _ _).symm.trans H; rw [hy112]; with_reducible exact H2_) | (have H2_ := (Option.bind_some _ _).symm.trans H; with_reducible exact H2_) | with_reducible exact H | (rw [hy112]; exact H) | exact H
                        have Ny112 := Aside0.mk hy112
                        clear hy112
                        by_cases c15 : 0 ≤ x5_2
                        · rw [if_pos c15] at H
                          have c15b0 := eq_true c15
                          have c15b1 : decide (0 ≤ x5_2) = true := decide_eq_true c15
                          clear c15
                          by_cases c16 : x5_2 ≤ (x3_1.length : Int)
                          · rw [if_pos c16] at H
                            have c16b0 := eq_true c16
                            have c16b1 : decide (x5_2 ≤ (x3_1.length : Int)) = true := decide_eq_true c16
                            clear c16
                            obtain ⟨y115, hy115⟩ : ∃ y_ : List Int, y_ = (x3_1.take (x5_2 : Int).toNat) := ⟨_, rfl⟩
                            replace H : (if y112.length + y115.length < 17592186044416 then ((some (y112 ++ y115 : List Int)).bind fun y119 => ((some (([x4_1] : List Int) : List Int)).bind fun y122 => (if y119.length + y122.length < 17592186044416 then ((some (y119 ++ y122 : List Int)).bind fun y125 => ((some (x3_1.drop (x5_2 : Int).toNat : List Int)).bind fun y128 => (if y125.length + y128.length < 17592186044416 then (prebendref15_Order.l0 k2 l0 (y125 ++ y128) (wrap64 (x4_1 + 1))) else (none)))) else (none)))) else (none)) = some r := by first | (rw [hy115]; with_reducible exact H) | (have H2_ := (Option.bind_some _ _).symm.trans H; rw [hy115]; with_reducible exact H2_) | (have H2_ := (Option.bind_some _ _).symm.trans H; with_reducible exact H2_) | with_reducible exact H | (rw [hy115]; exact H) | exact H
                            have Ny115 := Aside0.mk hy115
                            clear hy115
                            by_cases c17 : y112.length + y115.length < 17592186044416
                            · rw [if_pos c17] at H
                              have LMc17 := Aside0.mk c17
                              clear c17
                              obtain ⟨y119, hy119⟩ : ∃ y_ : List Int, y_ = (y112 ++ y115) := ⟨_, rfl⟩
                              replace H : ((some (([x4_1] : List Int) : List Int)).bind fun y122 => (if y119.length + y122.length < 17592186044416 then ((some (y119 ++ y122 : List Int)).bind fun y125 => ((some (x3_1.drop (x5_2 : Int).toNat : List Int)).bind fun y128 => (if y125.length + y128.length < 17592186044416 then (prebendref15_Order.l0 k2 l0 (y125 ++ y128) (wrap64 (x4_1 + 1))) else (none)))) else (none))) = some r := by first | (rw [hy119]; with_reducible exact H) | (have H2_ := (Option.bind_some _ _).symm.trans H; rw [hy119]; with_reducible exact H2_) | (have H2_ := (Option.bind_some _ _).symm.trans H; with_reducible exact H2_) | with_reducible exact H | (rw [hy119]; exact H) | exact H
                              have Ny119 := Aside0.mk hy119
                              clear hy119
                              obtain ⟨y122, hy122⟩ : ∃ y_ : List Int, y_ = (([x4_1] : List Int)) := ⟨_, rfl⟩
                              replace H : (if y119.length + y122.length < 17592186044416 then ((some (y119 ++ y122 : List Int)).bind fun y125 => ((some (x3_1.drop (x5_2 : Int).toNat : List Int)).bind fun y128 => (if y125.length + y128.length < 17592186044416 then (prebendref15_Order.l0 k2 l0 (y125 ++ y128) (wrap64 (x4_1 + 1))) else (none)))) else (none)) = some r := by first | (rw [hy122]; with_reducible exact H) | (have H2_ := (Option.bind_some _ _).symm.trans H; rw [hy122]; with_reducible exact H2_) | (have H2_ := (Option.bind_some _ _).symm.trans H; with_reducible exact H2_) | with_reducible exact H | (rw [hy122]; exact H) | exact H
                              have Ny122 := Aside0.mk hy122
                              clear hy122
                              by_cases c18 : y119.length + y122.length < 17592186044416
                              · rw [if_pos c18] at H
                                have LMc18 := Aside0.mk c18
                                clear c18
                                obtain ⟨y125, hy125⟩ : ∃ y_ : List Int, y_ = (y119 ++ y122) := ⟨_, rfl⟩
                                replace H : ((some (x3_1.drop (x5_2 : Int).toNat : List Int)).bind fun y128 => (if y125.length + y128.length < 17592186044416 then (prebendref15_Order.l0 k2 l0 (y125 ++ y128) (wrap64 (x4_1 + 1))) else (none))) = some r := by first | (rw [hy125]; with_reducible exact H) | (have H2_ := (Option.bind_some _ _).symm.trans H; rw [hy125]; with_reducible exact H2_) | (have H2_ := (Option.bind_some _ _).symm.trans H; with_reducible exact H2_) | with_reducible exact H | (rw [hy125]; exact H) | exact H
                                have Ny125 := Aside0.mk hy125
                                clear hy125
                                have c19b0 := eq_true (of_decide_eq_true (by first | (with_reducible assumption) | assumption) : 0 ≤ x5_2)
                                have c20b0 := eq_true (of_decide_eq_true (by first | (with_reducible assumption) | assumption) : x5_2 ≤ (x3_1.length : Int))
                                obtain ⟨y128, hy128⟩ : ∃ y_ : List Int, y_ = (x3_1.drop (x5_2 : Int).toNat) := ⟨_, rfl⟩
                                replace H : (if y125.length + y128.length < 17592186044416 then (prebendref15_Order.l0 k2 l0 (y125 ++ y128) (wrap64 (x4_1 + 1))) else (none)) = some r := by first | (rw [hy128]; with_reducible exact H) | (have H2_ := (Option.bind_some _ _).symm.trans H; rw [hy128]; with_reducible exact H2_) | (have H2_ := (Option.bind_some _ _).symm.trans H; with_reducible exact H2_) | with_reducible exact H | (rw [hy128]; exact H) | exact H
                                have Ny128 := Aside0.mk hy128
                                clear hy128
                                by_cases c21 : y125.length + y128.length < 17592186044416
                                · rw [if_pos c21] at H
                                  have LMc21 := Aside0.mk c21
                                  clear c21
                                  obtain ⟨y132, hy132⟩ : ∃ y_ : List Int, y_ = (y125 ++ y128) := ⟨_, rfl⟩
                                  replace H : (prebendref15_Order.l0 k2 l0 y132 (wrap64 (x4_1 + 1))) = some r := by first | (rw [hy132]; with_reducible exact H) | (have H2_ := (Option.bind_some _ _).symm.trans H; rw [hy132]; with_reducible exact H2_) | (have H2_ := (Option.bind_some _ _).symm.trans H; with_reducible exact H2_) | with_reducible exact H | (rw [hy132]; exact H) | exact H
                                  have Ny132 := Aside0.mk hy132
                                  clear hy132
                                  have H' := Aside0.mk H
                                  clear H
                                  have p110 : 0 ≤ ((ji9) : Int) := of_decide_eq_true (by first | (with_reducible assumption) | assumption)
                                  have q110 : (ji9) < (x3_1.length : Int) := of_decide_eq_true (by first | (with_reducible assumption) | assumption)
                                  obtain ⟨ad110, e110, hx110_0⟩ := Kd.at_int (Kd.R_reads' HO_3.out).2.2 (ji9) p110 q110
                                  cases e110
                                  replace p110 := eq_true p110
                                  replace q110 := eq_true q110
                                  try go_wp2_with (first | (go_at_call 31; (with_reducible refine (prebendref15_ahead.calls _ _ l0 x4_1 (rd x3_1 (ji9)) false _ ?side1 ?side2 A12.out).mono ?_); (case side1 => repeat (first | exact (Kd.C_below HR0.out HB.out) | (with_reducible refine Kd.C_alloc ?_ _) | (with_reducible refine Kd.C_drewN ?_ _) | (with_reducible refine Kd.C_drew ?_))); (case side2 => exact HC0.out); rintro e w22 ⟨rfl, hb⟩; have n0_ := Aside0.mk (Kd.R_below (by (with_reducible repeat (first | apply Kd.R_alloc | apply Kd.R_drewN | apply Kd.R_drew)); exact HO_3.out) hb); have n1_ := Aside0.mk (below_step (by repeat (first | (with_reducible first | exact HB.out | apply below_alloc | apply pw_below_drewN | apply below_drew1) | exact HB.out)) hb); clear HO_3; clear HB; have HO_3 := n0_; have HB := n1_; clear n0_ n1_; (try clear hb); (try clear hb2); (try clear hk); (try clear hi)))
                                  have n0_ := Aside0.mk (Kd.R_drew HO_3.out)
                                  have n1_ := Aside0.mk (below_drew1 HB.out)
                                  clear HO_3
                                  clear HB
                                  have HO_3 := n0_
                                  have HB := n1_
                                  clear n0_ n1_
                                  have q24 : (x5_2 : Int) ≤ ((x3_1.length : Int) : Int) := of_decide_eq_true (by first | (with_reducible assumption) | assumption)
                                  obtain ⟨i024, hi024, _, hsz24, _⟩ := info_parts info3
                                  have hroom24 : x3_1.length ≤ co7 := (Kd.R_reads' HO_3.out).2.1
                                  have hC24 : Kd.C (Kd.int .i64) _ (some ad110) x3_1.length x3_1 := (Kd.R_reads' HO_3.out).2.2
                                  have hcut24 := cut_to (P := Try.prog) 24 3 .i64 Try.underlying24 hi024 (some ad110) x3_1.length co7 x5_2 (of_decide_eq_true (by first | (with_reducible assumption) | assumption)) q24 hroom24
                                  have hr24 := Kd.C_take (m := (x5_2 : Int).toNat) hC24 (by omega)
                                  have hy24 : y115.length = (x5_2 : Int).toNat := (by rw [Ny115.out, List.length_take]; omega)
                                  rw [← Ny115.out] at hr24
                                  rw [← hy24] at hcut24
                                  have HR118 := Aside0.mk hr24
                                  have HC118 := Aside0.mk (show y115.length ≤ co7 from by omega)
                                  clear hr24 hC24 hroom24 hi024 hsz24
                                  have KY24 := Aside0.mk hy24
                                  clear hy24
                                  have KL24 := Aside0.mk (show (x5_2 : Int).toNat ≤ x3_1.length from by omega)
                                  replace q24 := eq_true q24
                                  have q25 : (x5_2 : Int) ≤ ((x3_1.length : Int) : Int) := of_decide_eq_true (by first | (with_reducible assumption) | assumption)
                                  obtain ⟨i025, hi025, _, hsz25, _⟩ := info_parts info3
                                  have hroom25 : x3_1.length ≤ co7 := (Kd.R_reads' HO_3.out).2.1
                                  have hC25 : Kd.C (Kd.int .i64) _ (some ad110) x3_1.length x3_1 := (Kd.R_reads' HO_3.out).2.2
                                  have q025 : (0 : Int) ≤ (x5_2 : Int) := of_decide_eq_true (by first | (with_reducible assumption) | assumption)
                                  have hcut25 := cut_from (P := Try.prog) 24 3 .i64 Try.underlying24 hi025 1 hsz25 (some ad110) x3_1.length co7 x5_2 q025 q25
                                  have hr25 := Kd.C_drop (m := (x5_2 : Int).toNat) (c := co7) hC25 (by omega) hroom25
                                  obtain ⟨A25, hA25⟩ : ∃ A1, A1 = (if co7 = (x5_2 : Int).toNat then (some ad110) else ((some ad110) : Option Addr).map (·.add ((x5_2 : Int).toNat * 1))) := ⟨_, rfl⟩
                                  obtain ⟨c25, hc25⟩ : ∃ c1, c1 = co7 - (x5_2 : Int).toNat := ⟨_, rfl⟩
                                  have hy25 : y128.length = x3_1.length - (x5_2 : Int).toNat := (by rw [Ny128.out, List.length_drop] <;> omega)
                                  rw [show (x3_1).drop (x5_2 : Int).toNat = y128 from Ny128.out.symm] at hr25
                                  replace hr25 : Kd.C (Kd.int .i64) _ A25 y128.length y128 := (by rw [hA25]; exact hr25)
                                  rw [← hy25, ← hA25, ← hc25] at hcut25
                                  have HR131 := Aside0.mk hr25
                                  have HC131 := Aside0.mk (show y128.length ≤ c25 from by rw [hy25, hc25]; exact Nat.sub_le_sub_right hroom25 _)
                                  clear hr25 hC25 hroom25 hi025 hsz25 hc25
                                  have KY25 := Aside0.mk hy25
                                  have KA25 := Aside0.mk hA25
                                  clear hy25 hA25
                                  have KL25 := Aside0.mk (show (x5_2 : Int).toNat ≤ x3_1.length from by omega)
                                  replace q25 := eq_true q25
                                  refine start_ (n := 13) (S := fun w' => True) (ds := []) #[false, false, false, false, false, false, false, false, false, false, false, false, false] (by kernel_rfl) rfl rfl trivial (fun hHeld => ?_); refine with_tabW prebendref15_Order.tab9 prebendref15_Order.bits9 (fun HT_ HW_ => ?_)
                                  generalize w22.drew = w23 at HO_3 HB HR118 HR131 hHeld ⊢
                                  refine pure_ (i := 1) (N := some 36) (v := ?_) (a' := ?_) #[false, true, false, false, false, false, false, false, false, false, false, false, false] rfl rfl (any_of HT_.out (by kernel_rfl)) (fun _ _ _ h => h) (Or.inl ⟨by rfl, ?_⟩) ?_ ?_
                                  rotate_left
                                  · intro w'
                                    go_simp
                                    with_reducible rfl
                                  rotate_left
                                  · simp only [Act.put, List.setIfInBounds_toArray, List.set_cons_zero, List.set_cons_succ, i64_w, i32_w]
                                    rfl
                                  refine pure_ (i := 2) (N := some 37) (v := ?_) (a' := ?_) #[false, true, true, false, false, false, false, false, false, false, false, false, false] rfl rfl (any_of HT_.out (by kernel_rfl)) (fun _ _ _ h => h) (Or.inl ⟨by rfl, ?_⟩) ?_ ?_
                                  rotate_left
                                  · intro w'
                                    go_simp
                                    with_reducible rfl
                                  rotate_left
                                  · simp only [Act.put, List.setIfInBounds_toArray, List.set_cons_zero, List.set_cons_succ, i64_w, i32_w]
                                    rfl
                                  refine pure_ (i := 3) (N := some 38) (v := ?_) (a' := ?_) #[false, true, true, true, false, false, false, false, false, false, false, false, false] rfl rfl (any_of HT_.out (by kernel_rfl)) (fun _ _ _ h => h) (Or.inl ⟨by rfl, ?_⟩) ?_ ?_
                                  rotate_left
                                  · intro w'
                                    go_simp
                                    with_reducible rfl
                                  rotate_left
                                  · simp only [Act.put, List.setIfInBounds_toArray, List.set_cons_zero, List.set_cons_succ, i64_w, i32_w]
                                    rfl
                                  refine pure_ (i := 5) (N := some 40) (v := ?_) (a' := ?_) #[false, true, true, true, false, true, false, false, false, false, false, false, false] rfl rfl (any_of HT_.out (by kernel_rfl)) (fun _ _ _ h => h) (Or.inl ⟨by rfl, ?_⟩) ?_ ?_
                                  rotate_left
                                  · intro w'
                                    go_simp
                                    with_reducible rfl
                                  rotate_left
                                  · simp only [Act.put, List.setIfInBounds_toArray, List.set_cons_zero, List.set_cons_succ, i64_w, i32_w]
                                    rfl
                                  refine pure_ (i := 8) (N := some 43) (v := ?_) (a' := ?_) #[false, true, true, true, false, true, false, false, true, false, false, false, false] rfl rfl (any_of HT_.out (by kernel_rfl)) (fun _ _ _ h => h) (Or.inl ⟨by rfl, ?_⟩) ?_ ?_
                                  rotate_left
                                  · intro w'
                                    go_simp
                                    with_reducible rfl
                                  rotate_left
                                  · simp only [Act.put, List.setIfInBounds_toArray, List.set_cons_zero, List.set_cons_succ, i64_w, i32_w]
                                    rfl
                                  refine pure_ (i := 9) (N := some 44) (v := ?_) (a' := ?_) #[false, true, true, true, false, true, false, false, true, true, false, false, false] rfl rfl (any_of HT_.out (by kernel_rfl)) (fun _ _ _ h => h) (Or.inl ⟨by rfl, ?_⟩) ?_ ?_
                                  rotate_left
                                  · intro w'
                                    go_simp
                                    with_reducible rfl
                                  rotate_left
                                  · simp only [Act.put, List.setIfInBounds_toArray, List.set_cons_zero, List.set_cons_succ, i64_w, i32_w]
                                    rfl
                                  refine pure_ (i := 10) (N := some 45) (v := ?_) (a' := ?_) #[false, true, true, true, false, true, false, false, true, true, true, false, false] rfl rfl (any_of HT_.out (by kernel_rfl)) (fun _ _ _ h => h) (Or.inl ⟨by rfl, ?_⟩) ?_ ?_
                                  rotate_left
                                  · intro w'
                                    go_simp
                                    with_reducible rfl
                                  rotate_left
                                  · simp only [Act.put, List.setIfInBounds_toArray, List.set_cons_zero, List.set_cons_succ, i64_w, i32_w]
                                    rfl
                                  refine join_ (σ := Value × Value × Value) 3 #[true, true, true, true, true, true, true, false, true, true, true, false, false] (fun s_ => [(35, s_.1), (39, s_.2.1), (41, s_.2.2)]) (fun s_ w' => (Kd.R (Kd.int .i64) 3 w' w.heap.size (fun k_ => some k_ ≠ (s_.2.2 : Value).ownBlock ∧ some k_ ≠ (.slice (some ad110) x3_1.length co7 : Value).ownBlock) s_.2.1 y119) ∧ (Kd.R (Kd.int .i64) 3 w' w.heap.size (fun k_ => some k_ ≠ (s_.2.1 : Value).ownBlock ∧ some k_ ≠ (.slice (some ad110) x3_1.length co7 : Value).ownBlock) s_.2.2 y122) ∧ (Kd.R (Kd.int .i64) 3 w' w.heap.size (fun k_ => some k_ ≠ (s_.2.1 : Value).ownBlock ∧ some k_ ≠ (s_.2.2 : Value).ownBlock) (.slice (some ad110) x3_1.length co7) x3_1) ∧ (Kd.C (Kd.int .i64) w' (some ad110) y115.length y115) ∧ (Kd.C (Kd.int .i64) w' A25 y128.length y128) ∧ (Below w.heap.size w w')) ?_ ?_
                                  rotate_left
                                  · intro hCont
                                    refine two_ (i := 0) (j := 6) (Ni := some 35) (Nj := some 41) #[true, true, true, true, false, true, false, false, true, true, true, false, false] #[false, true, true, true, false, true, true, false, true, true, true, false, false] rfl rfl rfl rfl (two_of HT_.out (by kernel_rfl)) (by decide) (by decide) (fun K hK => ?_) (fun K hK => ?_)
                                    · skip
                                      refine Kd.R_lit_step (Kd.int .i64) _ 3 ?hg (N := 35) ?hd (xs := ([] : List Int)) (inner := []) (ok := fun _ => True) (okp := fun _ => True) ?hr ?hp (fun _ hk => hk) trivial (Below.refl _ _) (Nat.le_refl _) (by simp) ?_; (case hd => rfl); (case hg => rfl); (case hr => first | (go_simp; done) | (go_simp; rfl)); (case hp => exact (Reps.none _ _))
                                      intro v113 w26 ho27 hb hg_ hnew_
                                      clear hg_ hnew_
                                      (first | rw [← Ny112.out] at ho27 | (simp only [Int.reduceToNat] at ho27; rw [← Ny112.out] at ho27))
                                      have n0_ := Aside0.mk (Kd.R_elder' (by (with_reducible repeat (first | apply Kd.R_alloc | apply Kd.R_drewN | apply Kd.R_drew)); exact HO_3.out) (Kd.R_base ho27) hb)
                                      have n1_ := Aside0.mk (Kd.R_lower (Kd.R_new' ho27 (Kd.R_lt (by (with_reducible repeat (first | apply Kd.R_alloc | apply Kd.R_drewN | apply Kd.R_drew)); exact HO_3.out))) (below_size (by repeat (first | (with_reducible first | exact HB.out | apply below_alloc | apply pw_below_drewN | apply below_drew1) | exact HB.out))))
                                      have n2_ := Aside0.mk (Kd.C_below (by repeat (first | (with_reducible exact HR118.out) | (with_reducible refine Kd.C_alloc ?_ _) | (with_reducible refine Kd.C_drewN ?_ _) | (with_reducible refine Kd.C_drew ?_) | exact HR118.out)) hb)
                                      have n3_ := Aside0.mk (Kd.C_below (by repeat (first | (with_reducible exact HR131.out) | (with_reducible refine Kd.C_alloc ?_ _) | (with_reducible refine Kd.C_drewN ?_ _) | (with_reducible refine Kd.C_drew ?_) | exact HR131.out)) hb)
                                      have n4_ := Aside0.mk (below_step (by repeat (first | (with_reducible first | exact HB.out | apply below_alloc | apply pw_below_drewN | apply below_drew1) | exact HB.out)) hb)
                                      clear HO_3
                                      clear HR118
                                      clear HR131
                                      clear HB
                                      have HO_3 := n0_
                                      have HO114 := n1_
                                      have HR118 := n2_
                                      have HR131 := n3_
                                      have HB := n4_
                                      clear n0_ n1_ n2_ n3_ n4_
                                      clear hb ho27
                                      refine hK.out _ _ trivial (fun hHeld => ?_)
                                      clear hK K
                                      refine norm_ (a' := ?_) ?_ ?_
                                      rotate_left
                                      · show Act.put _ (some 35) _ = _
                                        simp only [Act.put, List.setIfInBounds_toArray, List.set_cons_zero, List.set_cons_succ, i64_w, i32_w]
                                        rfl
                                      refine two_ (i := 4) (j := 6) (Ni := some 39) (Nj := some 41) #[true, true, true, true, true, true, false, false, true, true, true, false, false] #[true, true, true, true, false, true, true, false, true, true, true, false, false] rfl rfl rfl rfl (two_of HT_.out (by kernel_rfl)) (by decide) (by decide) (fun K hK => ?_) (fun K hK => ?_)
                                      · skip
                                        refine Kd.R_append_rows_step (Kd.int .i64) (w0 := w) w.heap.size (by rfl) (.tmp 35) (.tmp 38) 24 3 (.int .i64 0) 8 rfl Try.underlying24 info3 rfl (by decide) (by omega) v113 y112 y115 _ _ _ (fun k_ => some k_ ≠ (.slice (some ad110) x3_1.length co7 : Value).ownBlock) (fun _ => False) rfl rfl ?aO ?aR (fun _ _ h => h) (fun _ h => h.elim) ?aF ?aB ?aS ?aL ?_
                                        (case aR => repeat (first | exact (by repeat (first | (with_reducible exact HR118.out) | (with_reducible refine Kd.C_alloc ?_ _) | (with_reducible refine Kd.C_drewN ?_ _) | (with_reducible refine Kd.C_drew ?_) | exact HR118.out)) | (with_reducible refine Kd.C_alloc ?_ _) | (with_reducible refine Kd.C_drewN ?_ _) | (with_reducible refine Kd.C_drew ?_)))
                                        (case aB => exact (by repeat (first | (with_reducible first | exact HB.out | apply below_alloc | apply pw_below_drewN | apply below_drew1) | exact HB.out)))
                                        (case aF => exact (fun k_ hk => Kd.fresh' (Kd.R_lt (by (with_reducible repeat (first | apply Kd.R_alloc | apply Kd.R_drewN | apply Kd.R_drew)); exact HO_3.out)) k_ hk))
                                        (case aO => exact (by (with_reducible repeat (first | apply Kd.R_alloc | apply Kd.R_drewN | apply Kd.R_drew)); exact Kd.R_mono HO114.out (fun _ hk => hk.2)))
                                        (case aS => exact (below_size (by repeat (first | (with_reducible first | exact HB.out | apply below_alloc | apply pw_below_drewN | apply below_drew1) | exact HB.out))))
                                        (case aL => have := LMc17.out; omega)
                                        intro v120 w28 ho hb hg hat
                                        rw [← Ny119.out] at ho
                                        have n0_ := Aside0.mk (Kd.R_after (ok := (fun _ => True)) (by (with_reducible repeat (first | apply Kd.R_alloc | apply Kd.R_drewN | apply Kd.R_drew)); exact HO_3.out) hg hat)
                                        have n1_ := Aside0.mk (hb)
                                        have n2_ := Aside0.mk ((show Kd.C (Kd.int .i64) w28 (some ad110) y115.length y115 from by rw [Ny115.out]; exact Kd.C_take (m := (x5_2 : Int).toNat) ((Kd.R_reads' (Kd.R_after (ok := (fun _ => True)) (by (with_reducible repeat (first | apply Kd.R_alloc | apply Kd.R_drewN | apply Kd.R_drew)); exact HO_3.out) hg hat)).2.2) KL24.out))
                                        have n3_ := Aside0.mk ((show Kd.C (Kd.int .i64) w28 A25 y128.length y128 from by rw [Ny128.out, KA25.out]; exact Kd.C_drop (m := (x5_2 : Int).toNat) (c := co7) ((Kd.R_reads' (Kd.R_after (ok := (fun _ => True)) (by (with_reducible repeat (first | apply Kd.R_alloc | apply Kd.R_drewN | apply Kd.R_drew)); exact HO_3.out) hg hat)).2.2) KL25.out ((Kd.R_reads' (Kd.R_after (ok := (fun _ => True)) (by (with_reducible repeat (first | apply Kd.R_alloc | apply Kd.R_drewN | apply Kd.R_drew)); exact HO_3.out) hg hat)).2.1)))
                                        have n4_ := Aside0.mk (ho)
                                        clear HO_3
                                        clear HB
                                        clear HR118
                                        clear HR131
                                        clear HO114
                                        have HO_3 := n0_
                                        have HB := n1_
                                        have HR118 := n2_
                                        have HR131 := n3_
                                        have HO121 := n4_
                                        clear n0_ n1_ n2_ n3_ n4_
                                        clear ho hb hg hat
                                        refine hK.out _ _ trivial (fun hHeld => ?_)
                                        clear hK K
                                        refine norm_ (a' := ?_) ?_ ?_
                                        rotate_left
                                        · show Act.put _ (some 39) _ = _
                                          simp only [Act.put, List.setIfInBounds_toArray, List.set_cons_zero, List.set_cons_succ, i64_w, i32_w]
                                          rfl
                                        refine one_ (i := 6) (N := some 41) #[true, true, true, true, true, true, true, false, true, true, true, false, false] rfl rfl (one_of HT_.out (by kernel_rfl)) (by decide) (fun K hK => ?_)
                                        refine Kd.R_lit_step (Kd.int .i64) _ 3 ?hg (N := 41) ?hd (xs := ([x4_1] : List Int)) (inner := [.int .i64 x4_1]) (ok := fun _ => True) (okp := fun _ => True) ?hr ?hp (fun _ hk => hk) trivial (Below.refl _ _) (Nat.le_refl _) (by simp) ?_; (case hd => rfl); (case hg => rfl); (case hr => first | (go_simp; done) | (go_simp; rfl)); (case hp => exact (Reps.one (show Kd.M (Kd.int .i64) _ _ _ x4_1 [.int .i64 x4_1] from rfl) (Reps.none _ _)))
                                        intro v123 w29 ho30 hb hg_ hnew_
                                        clear hg_ hnew_
                                        (first | rw [← Ny122.out] at ho30 | (simp only [Int.reduceToNat] at ho30; rw [← Ny122.out] at ho30))
                                        have n0_ := Aside0.mk (Kd.R_elder' (by (with_reducible repeat (first | apply Kd.R_alloc | apply Kd.R_drewN | apply Kd.R_drew)); exact HO_3.out) (Kd.R_base ho30) hb)
                                        have n1_ := Aside0.mk (Kd.R_elder' (by (with_reducible repeat (first | apply Kd.R_alloc | apply Kd.R_drewN | apply Kd.R_drew)); exact HO121.out) (Kd.R_base ho30) hb)
                                        have n2_ := Aside0.mk (Kd.R_lower (Kd.R_new' (Kd.R_new' ho30 (Kd.R_lt (by (with_reducible repeat (first | apply Kd.R_alloc | apply Kd.R_drewN | apply Kd.R_drew)); exact HO_3.out))) (Kd.R_lt (by (with_reducible repeat (first | apply Kd.R_alloc | apply Kd.R_drewN | apply Kd.R_drew)); exact HO121.out))) (below_size (by repeat (first | (with_reducible first | exact HB.out | apply below_alloc | apply pw_below_drewN | apply below_drew1) | exact HB.out))))
                                        have n3_ := Aside0.mk (Kd.C_below (by repeat (first | (with_reducible exact HR118.out) | (with_reducible refine Kd.C_alloc ?_ _) | (with_reducible refine Kd.C_drewN ?_ _) | (with_reducible refine Kd.C_drew ?_) | exact HR118.out)) hb)
                                        have n4_ := Aside0.mk (Kd.C_below (by repeat (first | (with_reducible exact HR131.out) | (with_reducible refine Kd.C_alloc ?_ _) | (with_reducible refine Kd.C_drewN ?_ _) | (with_reducible refine Kd.C_drew ?_) | exact HR131.out)) hb)
                                        have n5_ := Aside0.mk (below_step (by repeat (first | (with_reducible first | exact HB.out | apply below_alloc | apply pw_below_drewN | apply below_drew1) | exact HB.out)) hb)
                                        clear HO_3
                                        clear HO121
                                        clear HR118
                                        clear HR131
                                        clear HB
                                        have HO_3 := n0_
                                        have HO121 := n1_
                                        have HO124 := n2_
                                        have HR118 := n3_
                                        have HR131 := n4_
                                        have HB := n5_
                                        clear n0_ n1_ n2_ n3_ n4_ n5_
                                        clear hb ho30
                                        refine hK.out _ _ trivial (fun hHeld => ?_)
                                        clear hK K
                                        refine norm_ (a' := ?_) ?_ ?_
                                        rotate_left
                                        · show Act.put _ (some 41) _ = _
                                          simp only [Act.put, List.setIfInBounds_toArray, List.set_cons_zero, List.set_cons_succ, i64_w, i32_w]
                                          rfl
                                        exact norm_ (by simp only [putAll, Act.put, List.setIfInBounds_toArray, List.set_cons_zero, List.set_cons_succ]) (hCont (v113, v120, v123) _ ⟨(by (with_reducible repeat (first | apply Kd.R_alloc | apply Kd.R_drewN | apply Kd.R_drew)); exact Kd.R_mono HO121.out (fun _ hk => ⟨hk.2, hk.1⟩)), (by (with_reducible repeat (first | apply Kd.R_alloc | apply Kd.R_drewN | apply Kd.R_drew)); exact Kd.R_mono HO124.out (fun _ hk => ⟨hk.2, hk.1.2⟩)), (by (with_reducible repeat (first | apply Kd.R_alloc | apply Kd.R_drewN | apply Kd.R_drew)); exact Kd.R_mono HO_3.out (fun _ hk => ⟨hk.1.2, hk.2⟩)), (by repeat (first | (with_reducible exact HR118.out) | (with_reducible refine Kd.C_alloc ?_ _) | (with_reducible refine Kd.C_drewN ?_ _) | (with_reducible refine Kd.C_drew ?_) | exact HR118.out)), (by repeat (first | (with_reducible exact HR131.out) | (with_reducible refine Kd.C_alloc ?_ _) | (with_reducible refine Kd.C_drewN ?_ _) | (with_reducible refine Kd.C_drew ?_) | exact HR131.out)), (by repeat (first | (with_reducible first | exact HB.out | apply below_alloc | apply pw_below_drewN | apply below_drew1) | exact HB.out))⟩)
                                      · skip
                                        refine Kd.R_lit_step (Kd.int .i64) _ 3 ?hg (N := 41) ?hd (xs := ([x4_1] : List Int)) (inner := [.int .i64 x4_1]) (ok := fun _ => True) (okp := fun _ => True) ?hr ?hp (fun _ hk => hk) trivial (Below.refl _ _) (Nat.le_refl _) (by simp) ?_; (case hd => rfl); (case hg => rfl); (case hr => first | (go_simp; done) | (go_simp; rfl)); (case hp => exact (Reps.one (show Kd.M (Kd.int .i64) _ _ _ x4_1 [.int .i64 x4_1] from rfl) (Reps.none _ _)))
                                        intro v123 w28 ho29 hb hg_ hnew_
                                        clear hg_ hnew_
                                        (first | rw [← Ny122.out] at ho29 | (simp only [Int.reduceToNat] at ho29; rw [← Ny122.out] at ho29))
                                        have n0_ := Aside0.mk (Kd.R_elder' (by (with_reducible repeat (first | apply Kd.R_alloc | apply Kd.R_drewN | apply Kd.R_drew)); exact HO_3.out) (Kd.R_base ho29) hb)
                                        have n1_ := Aside0.mk (Kd.R_elder' (by (with_reducible repeat (first | apply Kd.R_alloc | apply Kd.R_drewN | apply Kd.R_drew)); exact HO114.out) (Kd.R_base ho29) hb)
                                        have n2_ := Aside0.mk (Kd.R_lower (Kd.R_new' (Kd.R_new' ho29 (Kd.R_lt (by (with_reducible repeat (first | apply Kd.R_alloc | apply Kd.R_drewN | apply Kd.R_drew)); exact HO_3.out))) (Kd.R_lt (by (with_reducible repeat (first | apply Kd.R_alloc | apply Kd.R_drewN | apply Kd.R_drew)); exact HO114.out))) (below_size (by repeat (first | (with_reducible first | exact HB.out | apply below_alloc | apply pw_below_drewN | apply below_drew1) | exact HB.out))))
                                        have n3_ := Aside0.mk (Kd.C_below (by repeat (first | (with_reducible exact HR118.out) | (with_reducible refine Kd.C_alloc ?_ _) | (with_reducible refine Kd.C_drewN ?_ _) | (with_reducible refine Kd.C_drew ?_) | exact HR118.out)) hb)
                                        have n4_ := Aside0.mk (Kd.C_below (by repeat (first | (with_reducible exact HR131.out) | (with_reducible refine Kd.C_alloc ?_ _) | (with_reducible refine Kd.C_drewN ?_ _) | (with_reducible refine Kd.C_drew ?_) | exact HR131.out)) hb)
                                        have n5_ := Aside0.mk (below_step (by repeat (first | (with_reducible first | exact HB.out | apply below_alloc | apply pw_below_drewN | apply below_drew1) | exact HB.out)) hb)
                                        clear HO_3
                                        clear HO114
                                        clear HR118
                                        clear HR131
                                        clear HB
                                        have HO_3 := n0_
                                        have HO114 := n1_
                                        have HO124 := n2_
                                        have HR118 := n3_
                                        have HR131 := n4_
                                        have HB := n5_
                                        clear n0_ n1_ n2_ n3_ n4_ n5_
                                        clear hb ho29
                                        refine hK.out _ _ trivial (fun hHeld => ?_)
                                        clear hK K
                                        refine norm_ (a' := ?_) ?_ ?_
                                        rotate_left
                                        · show Act.put _ (some 41) _ = _
                                          simp only [Act.put, List.setIfInBounds_toArray, List.set_cons_zero, List.set_cons_succ, i64_w, i32_w]
                                          rfl
                                        refine one_ (i := 4) (N := some 39) #[true, true, true, true, true, true, true, false, true, true, true, false, false] rfl rfl (one_of HT_.out (by kernel_rfl)) (by decide) (fun K hK => ?_)
                                        refine Kd.R_append_rows_step (Kd.int .i64) (w0 := w) w.heap.size (by rfl) (.tmp 35) (.tmp 38) 24 3 (.int .i64 0) 8 rfl Try.underlying24 info3 rfl (by decide) (by omega) v113 y112 y115 _ _ _ (fun k_ => some k_ ≠ (.slice (some ad110) x3_1.length co7 : Value).ownBlock ∧ some k_ ≠ (v123 : Value).ownBlock) (fun _ => False) rfl rfl ?aO ?aR (fun _ _ h => h) (fun _ h => h.elim) ?aF ?aB ?aS ?aL ?_
                                        (case aR => repeat (first | exact (by repeat (first | (with_reducible exact HR118.out) | (with_reducible refine Kd.C_alloc ?_ _) | (with_reducible refine Kd.C_drewN ?_ _) | (with_reducible refine Kd.C_drew ?_) | exact HR118.out)) | (with_reducible refine Kd.C_alloc ?_ _) | (with_reducible refine Kd.C_drewN ?_ _) | (with_reducible refine Kd.C_drew ?_)))
                                        (case aB => exact (by repeat (first | (with_reducible first | exact HB.out | apply below_alloc | apply pw_below_drewN | apply below_drew1) | exact HB.out)))
                                        (case aF => exact (fun k_ hk => ⟨Kd.fresh' (Kd.R_lt (by (with_reducible repeat (first | apply Kd.R_alloc | apply Kd.R_drewN | apply Kd.R_drew)); exact HO_3.out)) k_ hk, Kd.fresh' (Kd.R_lt (by (with_reducible repeat (first | apply Kd.R_alloc | apply Kd.R_drewN | apply Kd.R_drew)); exact HO124.out)) k_ hk⟩))
                                        (case aO => exact (by (with_reducible repeat (first | apply Kd.R_alloc | apply Kd.R_drewN | apply Kd.R_drew)); exact Kd.R_mono HO114.out (fun _ hk => ⟨hk.1.2, hk.2⟩)))
                                        (case aS => exact (below_size (by repeat (first | (with_reducible first | exact HB.out | apply below_alloc | apply pw_below_drewN | apply below_drew1) | exact HB.out))))
                                        (case aL => have := LMc17.out; omega)
                                        intro v120 w30 ho hb hg hat
                                        rw [← Ny119.out] at ho
                                        have n0_ := Aside0.mk (Kd.R_after (ok := (fun k_ => some k_ ≠ (v123 : Value).ownBlock)) (by (with_reducible repeat (first | apply Kd.R_alloc | apply Kd.R_drewN | apply Kd.R_drew)); exact Kd.R_mono HO_3.out (fun _ hk => ⟨hk.2, hk.1.2⟩)) hg hat)
                                        have n1_ := Aside0.mk (Kd.R_after (ok := (fun k_ => some k_ ≠ (.slice (some ad110) x3_1.length co7 : Value).ownBlock)) (by (with_reducible repeat (first | apply Kd.R_alloc | apply Kd.R_drewN | apply Kd.R_drew)); exact Kd.R_mono HO124.out (fun _ hk => ⟨hk.1.2, hk.2⟩)) hg hat)
                                        have n2_ := Aside0.mk (hb)
                                        have n3_ := Aside0.mk ((show Kd.C (Kd.int .i64) w30 (some ad110) y115.length y115 from by rw [Ny115.out]; exact Kd.C_take (m := (x5_2 : Int).toNat) ((Kd.R_reads' (Kd.R_after (ok := (fun k_ => some k_ ≠ (v123 : Value).ownBlock)) (by (with_reducible repeat (first | apply Kd.R_alloc | apply Kd.R_drewN | apply Kd.R_drew)); exact Kd.R_mono HO_3.out (fun _ hk => ⟨hk.2, hk.1.2⟩)) hg hat)).2.2) KL24.out))
                                        have n4_ := Aside0.mk ((show Kd.C (Kd.int .i64) w30 A25 y128.length y128 from by rw [Ny128.out, KA25.out]; exact Kd.C_drop (m := (x5_2 : Int).toNat) (c := co7) ((Kd.R_reads' (Kd.R_after (ok := (fun k_ => some k_ ≠ (v123 : Value).ownBlock)) (by (with_reducible repeat (first | apply Kd.R_alloc | apply Kd.R_drewN | apply Kd.R_drew)); exact Kd.R_mono HO_3.out (fun _ hk => ⟨hk.2, hk.1.2⟩)) hg hat)).2.2) KL25.out ((Kd.R_reads' (Kd.R_after (ok := (fun k_ => some k_ ≠ (v123 : Value).ownBlock)) (by (with_reducible repeat (first | apply Kd.R_alloc | apply Kd.R_drewN | apply Kd.R_drew)); exact Kd.R_mono HO_3.out (fun _ hk => ⟨hk.2, hk.1.2⟩)) hg hat)).2.1)))
                                        have n5_ := Aside0.mk (ho)
                                        clear HO_3
                                        clear HO124
                                        clear HB
                                        clear HR118
                                        clear HR131
                                        clear HO114
                                        have HO_3 := n0_
                                        have HO124 := n1_
                                        have HB := n2_
                                        have HR118 := n3_
                                        have HR131 := n4_
                                        have HO121 := n5_
                                        clear n0_ n1_ n2_ n3_ n4_ n5_
                                        clear ho hb hg hat
                                        refine hK.out _ _ trivial (fun hHeld => ?_)
                                        clear hK K
                                        refine norm_ (a' := ?_) ?_ ?_
                                        rotate_left
                                        · show Act.put _ (some 39) _ = _
                                          simp only [Act.put, List.setIfInBounds_toArray, List.set_cons_zero, List.set_cons_succ, i64_w, i32_w]
                                          rfl
                                        exact norm_ (by simp only [putAll, Act.put, List.setIfInBounds_toArray, List.set_cons_zero, List.set_cons_succ]) (hCont (v113, v120, v123) _ ⟨(by (with_reducible repeat (first | apply Kd.R_alloc | apply Kd.R_drewN | apply Kd.R_drew)); exact Kd.R_mono HO121.out (fun _ hk => ⟨hk.2, hk.1⟩)), (by (with_reducible repeat (first | apply Kd.R_alloc | apply Kd.R_drewN | apply Kd.R_drew)); exact Kd.R_mono HO124.out (fun _ hk => ⟨hk.2, hk.1⟩)), (by (with_reducible repeat (first | apply Kd.R_alloc | apply Kd.R_drewN | apply Kd.R_drew)); exact Kd.R_mono HO_3.out (fun _ hk => ⟨hk.2, hk.1⟩)), (by repeat (first | (with_reducible exact HR118.out) | (with_reducible refine Kd.C_alloc ?_ _) | (with_reducible refine Kd.C_drewN ?_ _) | (with_reducible refine Kd.C_drew ?_) | exact HR118.out)), (by repeat (first | (with_reducible exact HR131.out) | (with_reducible refine Kd.C_alloc ?_ _) | (with_reducible refine Kd.C_drewN ?_ _) | (with_reducible refine Kd.C_drew ?_) | exact HR131.out)), (by repeat (first | (with_reducible first | exact HB.out | apply below_alloc | apply pw_below_drewN | apply below_drew1) | exact HB.out))⟩)
                                    · skip
                                      refine Kd.R_lit_step (Kd.int .i64) _ 3 ?hg (N := 41) ?hd (xs := ([x4_1] : List Int)) (inner := [.int .i64 x4_1]) (ok := fun _ => True) (okp := fun _ => True) ?hr ?hp (fun _ hk => hk) trivial (Below.refl _ _) (Nat.le_refl _) (by simp) ?_; (case hd => rfl); (case hg => rfl); (case hr => first | (go_simp; done) | (go_simp; rfl)); (case hp => exact (Reps.one (show Kd.M (Kd.int .i64) _ _ _ x4_1 [.int .i64 x4_1] from rfl) (Reps.none _ _)))
                                      intro v123 w26 ho27 hb hg_ hnew_
                                      clear hg_ hnew_
                                      (first | rw [← Ny122.out] at ho27 | (simp only [Int.reduceToNat] at ho27; rw [← Ny122.out] at ho27))
                                      have n0_ := Aside0.mk (Kd.R_elder' (by (with_reducible repeat (first | apply Kd.R_alloc | apply Kd.R_drewN | apply Kd.R_drew)); exact HO_3.out) (Kd.R_base ho27) hb)
                                      have n1_ := Aside0.mk (Kd.R_lower (Kd.R_new' ho27 (Kd.R_lt (by (with_reducible repeat (first | apply Kd.R_alloc | apply Kd.R_drewN | apply Kd.R_drew)); exact HO_3.out))) (below_size (by repeat (first | (with_reducible first | exact HB.out | apply below_alloc | apply pw_below_drewN | apply below_drew1) | exact HB.out))))
                                      have n2_ := Aside0.mk (Kd.C_below (by repeat (first | (with_reducible exact HR118.out) | (with_reducible refine Kd.C_alloc ?_ _) | (with_reducible refine Kd.C_drewN ?_ _) | (with_reducible refine Kd.C_drew ?_) | exact HR118.out)) hb)
                                      have n3_ := Aside0.mk (Kd.C_below (by repeat (first | (with_reducible exact HR131.out) | (with_reducible refine Kd.C_alloc ?_ _) | (with_reducible refine Kd.C_drewN ?_ _) | (with_reducible refine Kd.C_drew ?_) | exact HR131.out)) hb)
                                      have n4_ := Aside0.mk (below_step (by repeat (first | (with_reducible first | exact HB.out | apply below_alloc | apply pw_below_drewN | apply below_drew1) | exact HB.out)) hb)
                                      clear HO_3
                                      clear HR118
                                      clear HR131
                                      clear HB
                                      have HO_3 := n0_
                                      have HO124 := n1_
                                      have HR118 := n2_
                                      have HR131 := n3_
                                      have HB := n4_
                                      clear n0_ n1_ n2_ n3_ n4_
                                      clear hb ho27
                                      refine hK.out _ _ trivial (fun hHeld => ?_)
                                      clear hK K
                                      refine norm_ (a' := ?_) ?_ ?_
                                      rotate_left
                                      · show Act.put _ (some 41) _ = _
                                        simp only [Act.put, List.setIfInBounds_toArray, List.set_cons_zero, List.set_cons_succ, i64_w, i32_w]
                                        rfl
                                      refine one_ (i := 0) (N := some 35) #[true, true, true, true, false, true, true, false, true, true, true, false, false] rfl rfl (one_of HT_.out (by kernel_rfl)) (by decide) (fun K hK => ?_)
                                      refine Kd.R_lit_step (Kd.int .i64) _ 3 ?hg (N := 35) ?hd (xs := ([] : List Int)) (inner := []) (ok := fun _ => True) (okp := fun _ => True) ?hr ?hp (fun _ hk => hk) trivial (Below.refl _ _) (Nat.le_refl _) (by simp) ?_; (case hd => rfl); (case hg => rfl); (case hr => first | (go_simp; done) | (go_simp; rfl)); (case hp => exact (Reps.none _ _))
                                      intro v113 w28 ho29 hb hg_ hnew_
                                      clear hg_ hnew_
                                      (first | rw [← Ny112.out] at ho29 | (simp only [Int.reduceToNat] at ho29; rw [← Ny112.out] at ho29))
                                      have n0_ := Aside0.mk (Kd.R_elder' (by (with_reducible repeat (first | apply Kd.R_alloc | apply Kd.R_drewN | apply Kd.R_drew)); exact HO_3.out) (Kd.R_base ho29) hb)
                                      have n1_ := Aside0.mk (Kd.R_elder' (by (with_reducible repeat (first | apply Kd.R_alloc | apply Kd.R_drewN | apply Kd.R_drew)); exact HO124.out) (Kd.R_base ho29) hb)
                                      have n2_ := Aside0.mk (Kd.R_lower (Kd.R_new' (Kd.R_new' ho29 (Kd.R_lt (by (with_reducible repeat (first | apply Kd.R_alloc | apply Kd.R_drewN | apply Kd.R_drew)); exact HO_3.out))) (Kd.R_lt (by (with_reducible repeat (first | apply Kd.R_alloc | apply Kd.R_drewN | apply Kd.R_drew)); exact HO124.out))) (below_size (by repeat (first | (with_reducible first | exact HB.out | apply below_alloc | apply pw_below_drewN | apply below_drew1) | exact HB.out))))
                                      have n3_ := Aside0.mk (Kd.C_below (by repeat (first | (with_reducible exact HR118.out) | (with_reducible refine Kd.C_alloc ?_ _) | (with_reducible refine Kd.C_drewN ?_ _) | (with_reducible refine Kd.C_drew ?_) | exact HR118.out)) hb)
                                      have n4_ := Aside0.mk (Kd.C_below (by repeat (first | (with_reducible exact HR131.out) | (with_reducible refine Kd.C_alloc ?_ _) | (with_reducible refine Kd.C_drewN ?_ _) | (with_reducible refine Kd.C_drew ?_) | exact HR131.out)) hb)
                                      have n5_ := Aside0.mk (below_step (by repeat (first | (with_reducible first | exact HB.out | apply below_alloc | apply pw_below_drewN | apply below_drew1) | exact HB.out)) hb)
                                      clear HO_3
                                      clear HO124
                                      clear HR118
                                      clear HR131
                                      clear HB
                                      have HO_3 := n0_
                                      have HO124 := n1_
                                      have HO114 := n2_
                                      have HR118 := n3_
                                      have HR131 := n4_
                                      have HB := n5_
                                      clear n0_ n1_ n2_ n3_ n4_ n5_
                                      clear hb ho29
                                      refine hK.out _ _ trivial (fun hHeld => ?_)
                                      clear hK K
                                      refine norm_ (a' := ?_) ?_ ?_
                                      rotate_left
                                      · show Act.put _ (some 35) _ = _
                                        simp only [Act.put, List.setIfInBounds_toArray, List.set_cons_zero, List.set_cons_succ, i64_w, i32_w]
                                        rfl
                                      refine one_ (i := 4) (N := some 39) #[true, true, true, true, true, true, true, false, true, true, true, false, false] rfl rfl (one_of HT_.out (by kernel_rfl)) (by decide) (fun K hK => ?_)
                                      refine Kd.R_append_rows_step (Kd.int .i64) (w0 := w) w.heap.size (by rfl) (.tmp 35) (.tmp 38) 24 3 (.int .i64 0) 8 rfl Try.underlying24 info3 rfl (by decide) (by omega) v113 y112 y115 _ _ _ (fun k_ => some k_ ≠ (.slice (some ad110) x3_1.length co7 : Value).ownBlock ∧ some k_ ≠ (v123 : Value).ownBlock) (fun _ => False) rfl rfl ?aO ?aR (fun _ _ h => h) (fun _ h => h.elim) ?aF ?aB ?aS ?aL ?_
                                      (case aR => repeat (first | exact (by repeat (first | (with_reducible exact HR118.out) | (with_reducible refine Kd.C_alloc ?_ _) | (with_reducible refine Kd.C_drewN ?_ _) | (with_reducible refine Kd.C_drew ?_) | exact HR118.out)) | (with_reducible refine Kd.C_alloc ?_ _) | (with_reducible refine Kd.C_drewN ?_ _) | (with_reducible refine Kd.C_drew ?_)))
                                      (case aB => exact (by repeat (first | (with_reducible first | exact HB.out | apply below_alloc | apply pw_below_drewN | apply below_drew1) | exact HB.out)))
                                      (case aF => exact (fun k_ hk => ⟨Kd.fresh' (Kd.R_lt (by (with_reducible repeat (first | apply Kd.R_alloc | apply Kd.R_drewN | apply Kd.R_drew)); exact HO_3.out)) k_ hk, Kd.fresh' (Kd.R_lt (by (with_reducible repeat (first | apply Kd.R_alloc | apply Kd.R_drewN | apply Kd.R_drew)); exact HO124.out)) k_ hk⟩))
                                      (case aO => exact (by (with_reducible repeat (first | apply Kd.R_alloc | apply Kd.R_drewN | apply Kd.R_drew)); exact Kd.R_mono HO114.out (fun _ hk => ⟨hk.1.2, hk.2⟩)))
                                      (case aS => exact (below_size (by repeat (first | (with_reducible first | exact HB.out | apply below_alloc | apply pw_below_drewN | apply below_drew1) | exact HB.out))))
                                      (case aL => have := LMc17.out; omega)
                                      intro v120 w30 ho hb hg hat
                                      rw [← Ny119.out] at ho
                                      have n0_ := Aside0.mk (Kd.R_after (ok := (fun k_ => some k_ ≠ (v123 : Value).ownBlock)) (by (with_reducible repeat (first | apply Kd.R_alloc | apply Kd.R_drewN | apply Kd.R_drew)); exact Kd.R_mono HO_3.out (fun _ hk => ⟨hk.1.2, hk.2⟩)) hg hat)
                                      have n1_ := Aside0.mk (Kd.R_after (ok := (fun k_ => some k_ ≠ (.slice (some ad110) x3_1.length co7 : Value).ownBlock)) (by (with_reducible repeat (first | apply Kd.R_alloc | apply Kd.R_drewN | apply Kd.R_drew)); exact Kd.R_mono HO124.out (fun _ hk => ⟨hk.1.2, hk.2⟩)) hg hat)
                                      have n2_ := Aside0.mk (hb)
                                      have n3_ := Aside0.mk ((show Kd.C (Kd.int .i64) w30 (some ad110) y115.length y115 from by rw [Ny115.out]; exact Kd.C_take (m := (x5_2 : Int).toNat) ((Kd.R_reads' (Kd.R_after (ok := (fun k_ => some k_ ≠ (v123 : Value).ownBlock)) (by (with_reducible repeat (first | apply Kd.R_alloc | apply Kd.R_drewN | apply Kd.R_drew)); exact Kd.R_mono HO_3.out (fun _ hk => ⟨hk.1.2, hk.2⟩)) hg hat)).2.2) KL24.out))
                                      have n4_ := Aside0.mk ((show Kd.C (Kd.int .i64) w30 A25 y128.length y128 from by rw [Ny128.out, KA25.out]; exact Kd.C_drop (m := (x5_2 : Int).toNat) (c := co7) ((Kd.R_reads' (Kd.R_after (ok := (fun k_ => some k_ ≠ (v123 : Value).ownBlock)) (by (with_reducible repeat (first | apply Kd.R_alloc | apply Kd.R_drewN | apply Kd.R_drew)); exact Kd.R_mono HO_3.out (fun _ hk => ⟨hk.1.2, hk.2⟩)) hg hat)).2.2) KL25.out ((Kd.R_reads' (Kd.R_after (ok := (fun k_ => some k_ ≠ (v123 : Value).ownBlock)) (by (with_reducible repeat (first | apply Kd.R_alloc | apply Kd.R_drewN | apply Kd.R_drew)); exact Kd.R_mono HO_3.out (fun _ hk => ⟨hk.1.2, hk.2⟩)) hg hat)).2.1)))
                                      have n5_ := Aside0.mk (ho)
                                      clear HO_3
                                      clear HO124
                                      clear HB
                                      clear HR118
                                      clear HR131
                                      clear HO114
                                      have HO_3 := n0_
                                      have HO124 := n1_
                                      have HB := n2_
                                      have HR118 := n3_
                                      have HR131 := n4_
                                      have HO121 := n5_
                                      clear n0_ n1_ n2_ n3_ n4_ n5_
                                      clear ho hb hg hat
                                      refine hK.out _ _ trivial (fun hHeld => ?_)
                                      clear hK K
                                      refine norm_ (a' := ?_) ?_ ?_
                                      rotate_left
                                      · show Act.put _ (some 39) _ = _
                                        simp only [Act.put, List.setIfInBounds_toArray, List.set_cons_zero, List.set_cons_succ, i64_w, i32_w]
                                        rfl
                                      exact norm_ (by simp only [putAll, Act.put, List.setIfInBounds_toArray, List.set_cons_zero, List.set_cons_succ]) (hCont (v113, v120, v123) _ ⟨(by (with_reducible repeat (first | apply Kd.R_alloc | apply Kd.R_drewN | apply Kd.R_drew)); exact Kd.R_mono HO121.out (fun _ hk => ⟨hk.2, hk.1⟩)), (by (with_reducible repeat (first | apply Kd.R_alloc | apply Kd.R_drewN | apply Kd.R_drew)); exact Kd.R_mono HO124.out (fun _ hk => ⟨hk.2, hk.1⟩)), (by (with_reducible repeat (first | apply Kd.R_alloc | apply Kd.R_drewN | apply Kd.R_drew)); exact Kd.R_mono HO_3.out (fun _ hk => ⟨hk.2, hk.1⟩)), (by repeat (first | (with_reducible exact HR118.out) | (with_reducible refine Kd.C_alloc ?_ _) | (with_reducible refine Kd.C_drewN ?_ _) | (with_reducible refine Kd.C_drew ?_) | exact HR118.out)), (by repeat (first | (with_reducible exact HR131.out) | (with_reducible refine Kd.C_alloc ?_ _) | (with_reducible refine Kd.C_drewN ?_ _) | (with_reducible refine Kd.C_drew ?_) | exact HR131.out)), (by repeat (first | (with_reducible first | exact HB.out | apply below_alloc | apply pw_below_drewN | apply below_drew1) | exact HB.out))⟩)
                                  rintro ⟨v113, v120, v123⟩ w31 ⟨h0_, h1_, h2_, h3_, h4_, h5_⟩
                                  have n0_ : Aside0 (Kd.R (Kd.int .i64) 3 w31 w.heap.size (fun k_ => some k_ ≠ (v123 : Value).ownBlock ∧ some k_ ≠ (.slice (some ad110) x3_1.length co7 : Value).ownBlock) v120 y119) := ⟨h0_⟩
                                  have n1_ : Aside0 (Kd.R (Kd.int .i64) 3 w31 w.heap.size (fun k_ => some k_ ≠ (v120 : Value).ownBlock ∧ some k_ ≠ (.slice (some ad110) x3_1.length co7 : Value).ownBlock) v123 y122) := ⟨h1_⟩
                                  have n2_ : Aside0 (Kd.R (Kd.int .i64) 3 w31 w.heap.size (fun k_ => some k_ ≠ (v120 : Value).ownBlock ∧ some k_ ≠ (v123 : Value).ownBlock) (.slice (some ad110) x3_1.length co7) x3_1) := ⟨h2_⟩
                                  have n3_ : Aside0 (Kd.C (Kd.int .i64) w31 (some ad110) y115.length y115) := ⟨h3_⟩
                                  have n4_ : Aside0 (Kd.C (Kd.int .i64) w31 A25 y128.length y128) := ⟨h4_⟩
                                  have n5_ : Aside0 (Below w.heap.size w w31) := ⟨h5_⟩
                                  clear HO_3
                                  clear HB
                                  clear h0_ h1_ h2_ h3_ h4_ h5_
                                  have HO121 := n0_
                                  have HO124 := n1_
                                  have HO_3 := n2_
                                  have HR118 := n3_
                                  have HR131 := n4_
                                  have HB := n5_
                                  clear n0_ n1_ n2_ n3_ n4_ n5_
                                  have hHeld := trivial
                                  obtain ⟨Ao33, co33, eo33⟩ := Kd.R_slice HO124.out
                                  (first | subst eo33 | (injection eo33 with f1_ f2_ f3_; have f4_ := f1_.symm; have f5_ := f3_.symm; clear f1_ f2_ f3_; subst f4_; subst f5_))
                                  refine norm_ (a' := ?_) ?_ ?_
                                  rotate_left
                                  · simp only [putAll, Act.put, List.setIfInBounds_toArray, List.set_cons_zero, List.set_cons_succ]
                                    rfl
                                  refine one_ (i := 7) (N := some 42) #[true, true, true, true, true, true, true, true, true, true, true, false, false] rfl rfl (one_of HT_.out (by kernel_rfl)) (by decide) (fun K hK => ?_)
                                  refine Kd.R_append_rows_step (Kd.int .i64) (w0 := w) w.heap.size (by rfl) (.tmp 39) (.tmp 41) 24 3 (.int .i64 0) 8 rfl Try.underlying24 info3 rfl (by decide) (by omega) v120 y119 y122 _ _ _ (fun k_ => some k_ ≠ (.slice (some ad110) x3_1.length co7 : Value).ownBlock ∧ some k_ ≠ (.slice Ao33 y122.length co33 : Value).ownBlock) (fun _ => False) rfl rfl ?aO ?aR (fun _ _ h => h) (fun _ h => h.elim) ?aF ?aB ?aS ?aL ?_
                                  (case aR => repeat (first | exact (Kd.R_reads' HO124.out).2.2 | (with_reducible refine Kd.C_alloc ?_ _) | (with_reducible refine Kd.C_drewN ?_ _) | (with_reducible refine Kd.C_drew ?_)))
                                  (case aB => exact (by repeat (first | (with_reducible first | exact HB.out | apply below_alloc | apply pw_below_drewN | apply below_drew1) | exact HB.out)))
                                  (case aF => exact (fun k_ hk => ⟨Kd.fresh' (Kd.R_lt (by (with_reducible repeat (first | apply Kd.R_alloc | apply Kd.R_drewN | apply Kd.R_drew)); exact HO_3.out)) k_ hk, Kd.fresh' (Kd.R_lt (by (with_reducible repeat (first | apply Kd.R_alloc | apply Kd.R_drewN | apply Kd.R_drew)); exact HO124.out)) k_ hk⟩))
                                  (case aO => exact (by (with_reducible repeat (first | apply Kd.R_alloc | apply Kd.R_drewN | apply Kd.R_drew)); exact Kd.R_mono HO121.out (fun _ hk => ⟨hk.2, hk.1⟩)))
                                  (case aS => exact (below_size (by repeat (first | (with_reducible first | exact HB.out | apply below_alloc | apply pw_below_drewN | apply below_drew1) | exact HB.out))))
                                  (case aL => have := LMc18.out; omega)
                                  intro v126 w32 ho hb hg hat
                                  rw [← Ny125.out] at ho
                                  have n0_ := Aside0.mk (Kd.R_after (ok := (fun k_ => some k_ ≠ (.slice Ao33 y122.length co33 : Value).ownBlock)) (by (with_reducible repeat (first | apply Kd.R_alloc | apply Kd.R_drewN | apply Kd.R_drew)); exact Kd.R_mono HO_3.out (fun _ hk => ⟨hk.2, hk.1⟩)) hg hat)
                                  have n1_ := Aside0.mk (Kd.R_after (ok := (fun k_ => some k_ ≠ (.slice (some ad110) x3_1.length co7 : Value).ownBlock)) (by (with_reducible repeat (first | apply Kd.R_alloc | apply Kd.R_drewN | apply Kd.R_drew)); exact Kd.R_mono HO124.out (fun _ hk => ⟨hk.2, hk.1⟩)) hg hat)
                                  have n2_ := Aside0.mk (hb)
                                  have n3_ := Aside0.mk ((show Kd.C (Kd.int .i64) w32 (some ad110) y115.length y115 from by rw [Ny115.out]; exact Kd.C_take (m := (x5_2 : Int).toNat) ((Kd.R_reads' (Kd.R_after (ok := (fun k_ => some k_ ≠ (.slice Ao33 y122.length co33 : Value).ownBlock)) (by (with_reducible repeat (first | apply Kd.R_alloc | apply Kd.R_drewN | apply Kd.R_drew)); exact Kd.R_mono HO_3.out (fun _ hk => ⟨hk.2, hk.1⟩)) hg hat)).2.2) KL24.out))
                                  have n4_ := Aside0.mk ((show Kd.C (Kd.int .i64) w32 A25 y128.length y128 from by rw [Ny128.out, KA25.out]; exact Kd.C_drop (m := (x5_2 : Int).toNat) (c := co7) ((Kd.R_reads' (Kd.R_after (ok := (fun k_ => some k_ ≠ (.slice Ao33 y122.length co33 : Value).ownBlock)) (by (with_reducible repeat (first | apply Kd.R_alloc | apply Kd.R_drewN | apply Kd.R_drew)); exact Kd.R_mono HO_3.out (fun _ hk => ⟨hk.2, hk.1⟩)) hg hat)).2.2) KL25.out ((Kd.R_reads' (Kd.R_after (ok := (fun k_ => some k_ ≠ (.slice Ao33 y122.length co33 : Value).ownBlock)) (by (with_reducible repeat (first | apply Kd.R_alloc | apply Kd.R_drewN | apply Kd.R_drew)); exact Kd.R_mono HO_3.out (fun _ hk => ⟨hk.2, hk.1⟩)) hg hat)).2.1)))
                                  have n5_ := Aside0.mk (ho)
                                  clear HO_3
                                  clear HO124
                                  clear HB
                                  clear HR118
                                  clear HR131
                                  clear HO121
                                  have HO_3 := n0_
                                  have HO124 := n1_
                                  have HB := n2_
                                  have HR118 := n3_
                                  have HR131 := n4_
                                  have HO127 := n5_
                                  clear n0_ n1_ n2_ n3_ n4_ n5_
                                  clear ho hb hg hat
                                  refine hK.out _ _ trivial (fun hHeld => ?_)
                                  clear hK K
                                  refine norm_ (a' := ?_) ?_ ?_
                                  rotate_left
                                  · show Act.put _ (some 42) _ = _
                                    simp only [Act.put, List.setIfInBounds_toArray, List.set_cons_zero, List.set_cons_succ, i64_w, i32_w]
                                    rfl
                                  refine one_ (i := 11) (N := some 46) #[true, true, true, true, true, true, true, true, true, true, true, true, false] rfl rfl (one_of HT_.out (by kernel_rfl)) (by decide) (fun K hK => ?_)
                                  refine Kd.R_append_rows_step (Kd.int .i64) (w0 := w) w.heap.size (by rfl) (.tmp 42) (.tmp 45) 24 3 (.int .i64 0) 8 rfl Try.underlying24 info3 rfl (by decide) (by omega) v126 y125 y128 _ _ _ (fun k_ => some k_ ≠ (.slice (some ad110) x3_1.length co7 : Value).ownBlock ∧ some k_ ≠ (.slice Ao33 y122.length co33 : Value).ownBlock) (fun _ => False) rfl rfl ?aO ?aR (fun _ _ h => h) (fun _ h => h.elim) ?aF ?aB ?aS ?aL ?_
                                  (case aR => repeat (first | exact (by repeat (first | (with_reducible exact HR131.out) | (with_reducible refine Kd.C_alloc ?_ _) | (with_reducible refine Kd.C_drewN ?_ _) | (with_reducible refine Kd.C_drew ?_) | exact HR131.out)) | (with_reducible refine Kd.C_alloc ?_ _) | (with_reducible refine Kd.C_drewN ?_ _) | (with_reducible refine Kd.C_drew ?_)))
                                  (case aB => exact (by repeat (first | (with_reducible first | exact HB.out | apply below_alloc | apply pw_below_drewN | apply below_drew1) | exact HB.out)))
                                  (case aF => exact (fun k_ hk => ⟨Kd.fresh' (Kd.R_lt (by (with_reducible repeat (first | apply Kd.R_alloc | apply Kd.R_drewN | apply Kd.R_drew)); exact HO_3.out)) k_ hk, Kd.fresh' (Kd.R_lt (by (with_reducible repeat (first | apply Kd.R_alloc | apply Kd.R_drewN | apply Kd.R_drew)); exact HO124.out)) k_ hk⟩))
                                  (case aO => exact (by (with_reducible repeat (first | apply Kd.R_alloc | apply Kd.R_drewN | apply Kd.R_drew)); exact HO127.out))
                                  (case aS => exact (below_size (by repeat (first | (with_reducible first | exact HB.out | apply below_alloc | apply pw_below_drewN | apply below_drew1) | exact HB.out))))
                                  (case aL => have := LMc21.out; omega)
                                  intro v133 w34 ho hb hg hat
                                  rw [← Ny132.out] at ho
                                  have n0_ := Aside0.mk (Kd.R_after (ok := (fun k_ => some k_ ≠ (.slice Ao33 y122.length co33 : Value).ownBlock)) (by (with_reducible repeat (first | apply Kd.R_alloc | apply Kd.R_drewN | apply Kd.R_drew)); exact HO_3.out) hg hat)
                                  have n1_ := Aside0.mk (Kd.R_after (ok := (fun k_ => some k_ ≠ (.slice (some ad110) x3_1.length co7 : Value).ownBlock)) (by (with_reducible repeat (first | apply Kd.R_alloc | apply Kd.R_drewN | apply Kd.R_drew)); exact HO124.out) hg hat)
                                  have n2_ := Aside0.mk (hb)
                                  have n3_ := Aside0.mk ((show Kd.C (Kd.int .i64) w34 (some ad110) y115.length y115 from by rw [Ny115.out]; exact Kd.C_take (m := (x5_2 : Int).toNat) ((Kd.R_reads' (Kd.R_after (ok := (fun k_ => some k_ ≠ (.slice Ao33 y122.length co33 : Value).ownBlock)) (by (with_reducible repeat (first | apply Kd.R_alloc | apply Kd.R_drewN | apply Kd.R_drew)); exact HO_3.out) hg hat)).2.2) KL24.out))
                                  have n4_ := Aside0.mk ((show Kd.C (Kd.int .i64) w34 A25 y128.length y128 from by rw [Ny128.out, KA25.out]; exact Kd.C_drop (m := (x5_2 : Int).toNat) (c := co7) ((Kd.R_reads' (Kd.R_after (ok := (fun k_ => some k_ ≠ (.slice Ao33 y122.length co33 : Value).ownBlock)) (by (with_reducible repeat (first | apply Kd.R_alloc | apply Kd.R_drewN | apply Kd.R_drew)); exact HO_3.out) hg hat)).2.2) KL25.out ((Kd.R_reads' (Kd.R_after (ok := (fun k_ => some k_ ≠ (.slice Ao33 y122.length co33 : Value).ownBlock)) (by (with_reducible repeat (first | apply Kd.R_alloc | apply Kd.R_drewN | apply Kd.R_drew)); exact HO_3.out) hg hat)).2.1)))
                                  have n5_ := Aside0.mk (ho)
                                  clear HO_3
                                  clear HO124
                                  clear HB
                                  clear HR118
                                  clear HR131
                                  clear HO127
                                  have HO_3 := n0_
                                  have HO124 := n1_
                                  have HB := n2_
                                  have HR118 := n3_
                                  have HR131 := n4_
                                  have HO134 := n5_
                                  clear n0_ n1_ n2_ n3_ n4_ n5_
                                  clear ho hb hg hat
                                  refine hK.out _ _ trivial (fun hHeld => ?_)
                                  clear hK K
                                  refine norm_ (a' := ?_) ?_ ?_
                                  rotate_left
                                  · show Act.put _ (some 46) _ = _
                                    simp only [Act.put, List.setIfInBounds_toArray, List.set_cons_zero, List.set_cons_succ, i64_w, i32_w]
                                    rfl
                                  refine pure_ (i := 12) (N := some 3) (v := ?_) (a' := ?_) #[true, true, true, true, true, true, true, true, true, true, true, true, true] rfl rfl (any_of HT_.out (by kernel_rfl)) (fun _ _ _ h => h) (Or.inl ⟨by rfl, ?_⟩) ?_ ?_
                                  rotate_left
                                  · intro w'
                                    go_simp
                                    with_reducible rfl
                                  rotate_left
                                  · simp only [Act.put, List.setIfInBounds_toArray, List.set_cons_zero, List.set_cons_succ, i64_w, i32_w]
                                    rfl
                                  refine done_ (done_of HT_.out (by kernel_rfl)) ?_
                                  try go_wp2
                                  go_roundg k2
                                  case measure => have := HK1.out; have := HK2.out; omega
                                  case rel => exact ⟨(y132), (wrap64 (x4_1 + 1)), (by first | rfl | (simp; done) | (simp [*]; done)), H', ⟨by have := HK1.out; have := HK2.out; omega⟩, ⟨by (with_reducible repeat (first | apply Kd.R_alloc | apply Kd.R_drewN | apply Kd.R_drew)); exact Kd.R_mono HO134.out (fun _ hk => trivial)⟩, ⟨by repeat (first | (with_reducible first | exact HB.out | apply below_alloc | apply pw_below_drewN | apply below_drew1) | exact HB.out)⟩⟩
                                · rw [if_neg c21] at H
                                  exact absurd H (by simp)
                              · rw [if_neg c18] at H
                                exact absurd H (by simp)
                            · rw [if_neg c17] at H
                              exact absurd H (by simp)
                          · rw [if_neg c16] at H
                            exact absurd H (by simp)
                        · rw [if_neg c15] at H
                          exact absurd H (by simp)
                    · rw [if_neg c11] at H
                      exact absurd H (by simp)
                  · rw [if_neg c10] at H
                    exact absurd H (by simp)
                · rw [if_neg c8] at H
                  have c8b0 : decide (0 < x5_2) = false := decide_eq_false c8
                  clear c8
                  obtain ⟨y135, hy135⟩ : ∃ y_ : List Int, y_ = (([] : List Int)) := ⟨_, rfl⟩
                  replace H : (if 0 ≤ x5_2 then (if x5_2 ≤ (x3_1.length : Int) then ((some (x3_1.take (x5_2 : Int).toNat : List Int)).bind fun y138 => (if y135.length + y138.length < 17592186044416 then ((some (y135 ++ y138 : List Int)).bind fun y142 => ((some (([x4_1] : List Int) : List Int)).bind fun y145 => (if y142.length + y145.length < 17592186044416 then ((some (y142 ++ y145 : List Int)).bind fun y148 => ((some (x3_1.drop (x5_2 : Int).toNat : List Int)).bind fun y151 => (if y148.length + y151.length < 17592186044416 then (prebendref15_Order.l0 k2 l0 (y148 ++ y151) (wrap64 (x4_1 + 1))) else (none)))) else (none)))) else (none))) else (none)) else (none)) = some r := by first | (rw [hy135]; with_reducible exact H) | (have H2_ := (Option.bind_some _ _).symm.trans H; rw [hy135]; with_reducible exact H2_) | (have H2_ := (Option.bind_some _ _).symm.trans H; with_reducible exact H2_) | with_reducible exact H | (rw [hy135]; exact H) | exact H
                  have Ny135 := Aside0.mk hy135
                  clear hy135
                  by_cases c35 : 0 ≤ x5_2
                  · rw [if_pos c35] at H
                    have c35b0 := eq_true c35
                    have c35b1 : decide (0 ≤ x5_2) = true := decide_eq_true c35
                    clear c35
                    by_cases c36 : x5_2 ≤ (x3_1.length : Int)
                    · rw [if_pos c36] at H
                      have c36b0 := eq_true c36
                      have c36b1 : decide (x5_2 ≤ (x3_1.length : Int)) = true := decide_eq_true c36
                      clear c36
                      obtain ⟨y138, hy138⟩ : ∃ y_ : List Int, y_ = (x3_1.take (x5_2 : Int).toNat) := ⟨_, rfl⟩
                      replace H : (if y135.length + y138.length < 17592186044416 then ((some (y135 ++ y138 : List Int)).bind fun y142 => ((some (([x4_1] : List Int) : List Int)).bind fun y145 => (if y142.length + y145.length < 17592186044416 then ((some (y142 ++ y145 : List Int)).bind fun y148 => ((some (x3_1.drop (x5_2 : Int).toNat : List Int)).bind fun y151 => (if y148.length + y151.length < 17592186044416 then (prebendref15_Order.l0 k2 l0 (y148 ++ y151) (wrap64 (x4_1 + 1))) else (none)))) else (none)))) else (none)) = some r := by first | (rw [hy138]; with_reducible exact H) | (have H2_ := (Option.bind_some _ _).symm.trans H; rw [hy138]; with_reducible exact H2_) | (have H2_ := (Option.bind_some _ _).symm.trans H; with_reducible exact H2_) | with_reducible exact H | (rw [hy138]; exact H) | exact H
                      have Ny138 := Aside0.mk hy138
                      clear hy138
                      by_cases c37 : y135.length + y138.length < 17592186044416
                      · rw [if_pos c37] at H
                        have LMc37 := Aside0.mk c37
                        clear c37
                        obtain ⟨y142, hy142⟩ : ∃ y_ : List Int, y_ = (y135 ++ y138) := ⟨_, rfl⟩
                        replace H : ((some (([x4_1] : List Int) : List Int)).bind fun y145 => (if y142.length + y145.length < 17592186044416 then ((some (y142 ++ y145 : List Int)).bind fun y148 => ((some (x3_1.drop (x5_2 : Int).toNat : List Int)).bind fun y151 => (if y148.length + y151.length < 17592186044416 then (prebendref15_Order.l0 k2 l0 (y148 ++ y151) (wrap64 (x4_1 + 1))) else (none)))) else (none))) = some r := by first | (rw [hy142]; with_reducible exact H) | (have H2_ := (Option.bind_some _ _).symm.trans H; rw [hy142]; with_reducible exact H2_) | (have H2_ := (Option.bind_some _ _).symm.trans H; with_reducible exact H2_) | with_reducible exact H | (rw [hy142]; exact H) | exact H
                        have Ny142 := Aside0.mk hy142
                        clear hy142
                        obtain ⟨y145, hy145⟩ : ∃ y_ : List Int, y_ = (([x4_1] : List Int)) := ⟨_, rfl⟩
                        replace H : (if y142.length + y145.length < 17592186044416 then ((some (y142 ++ y145 : List Int)).bind fun y148 => ((some (x3_1.drop (x5_2 : Int).toNat : List Int)).bind fun y151 => (if y148.length + y151.length < 17592186044416 then (prebendref15_Order.l0 k2 l0 (y148 ++ y151) (wrap64 (x4_1 + 1))) else (none)))) else (none)) = some r := by first | (rw [hy145]; with_reducible exact H) | (have H2_ := (Option.bind_some _ _).symm.trans H; rw [hy145]; with_reducible exact H2_) | (have H2_ := (Option.bind_some _ _).symm.trans H; with_reducible exact H2_) | with_reducible exact H | (rw [hy145]; exact H) | exact H
                        have Ny145 := Aside0.mk hy145
                        clear hy145
                        by_cases c38 : y142.length + y145.length < 17592186044416
                        · rw [if_pos c38] at H
                          have LMc38 := Aside0.mk c38
                          clear c38
                          obtain ⟨y148, hy148⟩ : ∃ y_ : List Int, y_ = (y142 ++ y145) := ⟨_, rfl⟩
                          replace H : ((some (x3_1.drop (x5_2 : Int).toNat : List Int)).bind fun y151 => (if y148.length + y151.length < 17592186044416 then (prebendref15_Order.l0 k2 l0 (y148 ++ y151) (wrap64 (x4_1 + 1))) else (none))) = some r := by first | (rw [hy148]; with_reducible exact H) | (have H2_ := (Option.bind_some _ _).symm.trans H; rw [hy148]; with_reducible exact H2_) | (have H2_ := (Option.bind_some _ _).symm.trans H; with_reducible exact H2_) | with_reducible exact H | (rw [hy148]; exact H) | exact H
                          have Ny148 := Aside0.mk hy148
                          clear hy148
                          have c39b0 := eq_true (of_decide_eq_true (by first | (with_reducible assumption) | assumption) : 0 ≤ x5_2)
                          have c40b0 := eq_true (of_decide_eq_true (by first | (with_reducible assumption) | assumption) : x5_2 ≤ (x3_1.length : Int))
                          obtain ⟨y151, hy151⟩ : ∃ y_ : List Int, y_ = (x3_1.drop (x5_2 : Int).toNat) := ⟨_, rfl⟩
                          replace H : (if y148.length + y151.length < 17592186044416 then (prebendref15_Order.l0 k2 l0 (y148 ++ y151) (wrap64 (x4_1 + 1))) else (none)) = some r := by first | (rw [hy151]; with_reducible exact H) | (have H2_ := (Option.bind_some _ _).symm.trans H; rw [hy151]; with_reducible exact H2_) | (have H2_ := (Option.bind_some _ _).symm.trans H; with_reducible exact H2_) | with_reducible exact H | (rw [hy151]; exact H) | exact H
                          have Ny151 := Aside0.mk hy151
                          clear hy151
                          by_cases c41 : y148.length + y151.length < 17592186044416
                          · rw [if_pos c41] at H
                            have LMc41 := Aside0.mk c41
                            clear c41
                            obtain ⟨y155, hy155⟩ : ∃ y_ : List Int, y_ = (y148 ++ y151) := ⟨_, rfl⟩
                            replace H : (prebendref15_Order.l0 k2 l0 y155 (wrap64 (x4_1 + 1))) = some r := by first | (rw [hy155]; with_reducible exact H) | (have H2_ := (Option.bind_some _ _).symm.trans H; rw [hy155]; with_reducible exact H2_) | (have H2_ := (Option.bind_some _ _).symm.trans H; with_reducible exact H2_) | with_reducible exact H | (rw [hy155]; exact H) | exact H
                            have Ny155 := Aside0.mk hy155
                            clear hy155
                            have H' := Aside0.mk H
                            clear H
                            try go_wp2
                            have n0_ := Aside0.mk (Kd.R_drew HO_3.out)
                            have n1_ := Aside0.mk (below_drew1 HB.out)
                            clear HO_3
                            clear HB
                            have HO_3 := n0_
                            have HB := n1_
                            clear n0_ n1_
                            have q43 : (x5_2 : Int) ≤ ((x3_1.length : Int) : Int) := of_decide_eq_true (by first | (with_reducible assumption) | assumption)
                            obtain ⟨i043, hi043, _, hsz43, _⟩ := info_parts info3
                            have hroom43 : x3_1.length ≤ co7 := (Kd.R_reads' HO_3.out).2.1
                            have hC43 : Kd.C (Kd.int .i64) _ Ao7 x3_1.length x3_1 := (Kd.R_reads' HO_3.out).2.2
                            have hcut43 := cut_to (P := Try.prog) 24 3 .i64 Try.underlying24 hi043 Ao7 x3_1.length co7 x5_2 (of_decide_eq_true (by first | (with_reducible assumption) | assumption)) q43 hroom43
                            have hr43 := Kd.C_take (m := (x5_2 : Int).toNat) hC43 (by omega)
                            have hy43 : y138.length = (x5_2 : Int).toNat := (by rw [Ny138.out, List.length_take]; omega)
                            rw [← Ny138.out] at hr43
                            rw [← hy43] at hcut43
                            have HR141 := Aside0.mk hr43
                            have HC141 := Aside0.mk (show y138.length ≤ co7 from by omega)
                            clear hr43 hC43 hroom43 hi043 hsz43
                            have KY43 := Aside0.mk hy43
                            clear hy43
                            have KL43 := Aside0.mk (show (x5_2 : Int).toNat ≤ x3_1.length from by omega)
                            replace q43 := eq_true q43
                            have q44 : (x5_2 : Int) ≤ ((x3_1.length : Int) : Int) := of_decide_eq_true (by first | (with_reducible assumption) | assumption)
                            obtain ⟨i044, hi044, _, hsz44, _⟩ := info_parts info3
                            have hroom44 : x3_1.length ≤ co7 := (Kd.R_reads' HO_3.out).2.1
                            have hC44 : Kd.C (Kd.int .i64) _ Ao7 x3_1.length x3_1 := (Kd.R_reads' HO_3.out).2.2
                            have q044 : (0 : Int) ≤ (x5_2 : Int) := of_decide_eq_true (by first | (with_reducible assumption) | assumption)
                            have hcut44 := cut_from (P := Try.prog) 24 3 .i64 Try.underlying24 hi044 1 hsz44 Ao7 x3_1.length co7 x5_2 q044 q44
                            have hr44 := Kd.C_drop (m := (x5_2 : Int).toNat) (c := co7) hC44 (by omega) hroom44
                            obtain ⟨A44, hA44⟩ : ∃ A1, A1 = (if co7 = (x5_2 : Int).toNat then Ao7 else (Ao7 : Option Addr).map (·.add ((x5_2 : Int).toNat * 1))) := ⟨_, rfl⟩
                            obtain ⟨c44, hc44⟩ : ∃ c1, c1 = co7 - (x5_2 : Int).toNat := ⟨_, rfl⟩
                            have hy44 : y151.length = x3_1.length - (x5_2 : Int).toNat := (by rw [Ny151.out, List.length_drop] <;> omega)
                            rw [show (x3_1).drop (x5_2 : Int).toNat = y151 from Ny151.out.symm] at hr44
                            replace hr44 : Kd.C (Kd.int .i64) _ A44 y151.length y151 := (by rw [hA44]; exact hr44)
                            rw [← hy44, ← hA44, ← hc44] at hcut44
                            have HR154 := Aside0.mk hr44
                            have HC154 := Aside0.mk (show y151.length ≤ c44 from by rw [hy44, hc44]; exact Nat.sub_le_sub_right hroom44 _)
                            clear hr44 hC44 hroom44 hi044 hsz44 hc44
                            have KY44 := Aside0.mk hy44
                            have KA44 := Aside0.mk hA44
                            clear hy44 hA44
                            have KL44 := Aside0.mk (show (x5_2 : Int).toNat ≤ x3_1.length from by omega)
                            replace q44 := eq_true q44
                            refine start_ (n := 13) (S := fun w' => True) (ds := []) #[false, false, false, false, false, false, false, false, false, false, false, false, false] (by kernel_rfl) rfl rfl trivial (fun hHeld => ?_); refine with_tabW prebendref15_Order.tab9 prebendref15_Order.bits9 (fun HT_ HW_ => ?_)
                            generalize wr.drew = w42 at HO_3 HB HR141 HR154 hHeld ⊢
                            refine pure_ (i := 1) (N := some 36) (v := ?_) (a' := ?_) #[false, true, false, false, false, false, false, false, false, false, false, false, false] rfl rfl (any_of HT_.out (by kernel_rfl)) (fun _ _ _ h => h) (Or.inl ⟨by rfl, ?_⟩) ?_ ?_
                            rotate_left
                            · intro w'
                              go_simp
                              with_reducible rfl
                            rotate_left
                            · simp only [Act.put, List.setIfInBounds_toArray, List.set_cons_zero, List.set_cons_succ, i64_w, i32_w]
                              rfl
                            refine pure_ (i := 2) (N := some 37) (v := ?_) (a' := ?_) #[false, true, true, false, false, false, false, false, false, false, false, false, false] rfl rfl (any_of HT_.out (by kernel_rfl)) (fun _ _ _ h => h) (Or.inl ⟨by rfl, ?_⟩) ?_ ?_
                            rotate_left
                            · intro w'
                              go_simp
                              with_reducible rfl
                            rotate_left
                            · simp only [Act.put, List.setIfInBounds_toArray, List.set_cons_zero, List.set_cons_succ, i64_w, i32_w]
                              rfl
                            refine pure_ (i := 3) (N := some 38) (v := ?_) (a' := ?_) #[false, true, true, true, false, false, false, false, false, false, false, false, false] rfl rfl (any_of HT_.out (by kernel_rfl)) (fun _ _ _ h => h) (Or.inl ⟨by rfl, ?_⟩) ?_ ?_
                            rotate_left
                            · intro w'
                              go_simp
                              with_reducible rfl
                            rotate_left
                            · simp only [Act.put, List.setIfInBounds_toArray, List.set_cons_zero, List.set_cons_succ, i64_w, i32_w]
                              rfl
                            refine pure_ (i := 5) (N := some 40) (v := ?_) (a' := ?_) #[false, true, true, true, false, true, false, false, false, false, false, false, false] rfl rfl (any_of HT_.out (by kernel_rfl)) (fun _ _ _ h => h) (Or.inl ⟨by rfl, ?_⟩) ?_ ?_
                            rotate_left
                            · intro w'
                              go_simp
                              with_reducible rfl
                            rotate_left
                            · simp only [Act.put, List.setIfInBounds_toArray, List.set_cons_zero, List.set_cons_succ, i64_w, i32_w]
                              rfl
                            refine pure_ (i := 8) (N := some 43) (v := ?_) (a' := ?_) #[false, true, true, true, false, true, false, false, true, false, false, false, false] rfl rfl (any_of HT_.out (by kernel_rfl)) (fun _ _ _ h => h) (Or.inl ⟨by rfl, ?_⟩) ?_ ?_
                            rotate_left
                            · intro w'
                              go_simp
                              with_reducible rfl
                            rotate_left
                            · simp only [Act.put, List.setIfInBounds_toArray, List.set_cons_zero, List.set_cons_succ, i64_w, i32_w]
                              rfl
                            refine pure_ (i := 9) (N := some 44) (v := ?_) (a' := ?_) #[false, true, true, true, false, true, false, false, true, true, false, false, false] rfl rfl (any_of HT_.out (by kernel_rfl)) (fun _ _ _ h => h) (Or.inl ⟨by rfl, ?_⟩) ?_ ?_
                            rotate_left
                            · intro w'
                              go_simp
                              with_reducible rfl
                            rotate_left
                            · simp only [Act.put, List.setIfInBounds_toArray, List.set_cons_zero, List.set_cons_succ, i64_w, i32_w]
                              rfl
                            refine pure_ (i := 10) (N := some 45) (v := ?_) (a' := ?_) #[false, true, true, true, false, true, false, false, true, true, true, false, false] rfl rfl (any_of HT_.out (by kernel_rfl)) (fun _ _ _ h => h) (Or.inl ⟨by rfl, ?_⟩) ?_ ?_
                            rotate_left
                            · intro w'
                              go_simp
                              with_reducible rfl
                            rotate_left
                            · simp only [Act.put, List.setIfInBounds_toArray, List.set_cons_zero, List.set_cons_succ, i64_w, i32_w]
                              rfl
                            refine join_ (σ := Value × Value × Value) 3 #[true, true, true, true, true, true, true, false, true, true, true, false, false] (fun s_ => [(35, s_.1), (39, s_.2.1), (41, s_.2.2)]) (fun s_ w' => (Kd.R (Kd.int .i64) 3 w' w.heap.size (fun k_ => some k_ ≠ (s_.2.2 : Value).ownBlock ∧ some k_ ≠ (.slice Ao7 x3_1.length co7 : Value).ownBlock) s_.2.1 y142) ∧ (Kd.R (Kd.int .i64) 3 w' w.heap.size (fun k_ => some k_ ≠ (s_.2.1 : Value).ownBlock ∧ some k_ ≠ (.slice Ao7 x3_1.length co7 : Value).ownBlock) s_.2.2 y145) ∧ (Kd.R (Kd.int .i64) 3 w' w.heap.size (fun k_ => some k_ ≠ (s_.2.1 : Value).ownBlock ∧ some k_ ≠ (s_.2.2 : Value).ownBlock) (.slice Ao7 x3_1.length co7) x3_1) ∧ (Kd.C (Kd.int .i64) w' Ao7 y138.length y138) ∧ (Kd.C (Kd.int .i64) w' A44 y151.length y151) ∧ (Below w.heap.size w w')) ?_ ?_
                            rotate_left
                            · intro hCont
                              refine two_ (i := 0) (j := 6) (Ni := some 35) (Nj := some 41) #[true, true, true, true, false, true, false, false, true, true, true, false, false] #[false, true, true, true, false, true, true, false, true, true, true, false, false] rfl rfl rfl rfl (two_of HT_.out (by kernel_rfl)) (by decide) (by decide) (fun K hK => ?_) (fun K hK => ?_)
                              · skip
                                refine Kd.R_lit_step (Kd.int .i64) _ 3 ?hg (N := 35) ?hd (xs := ([] : List Int)) (inner := []) (ok := fun _ => True) (okp := fun _ => True) ?hr ?hp (fun _ hk => hk) trivial (Below.refl _ _) (Nat.le_refl _) (by simp) ?_; (case hd => rfl); (case hg => rfl); (case hr => first | (go_simp; done) | (go_simp; rfl)); (case hp => exact (Reps.none _ _))
                                intro v136 w45 ho46 hb hg_ hnew_
                                clear hg_ hnew_
                                (first | rw [← Ny135.out] at ho46 | (simp only [Int.reduceToNat] at ho46; rw [← Ny135.out] at ho46))
                                have n0_ := Aside0.mk (Kd.R_elder' (by (with_reducible repeat (first | apply Kd.R_alloc | apply Kd.R_drewN | apply Kd.R_drew)); exact HO_3.out) (Kd.R_base ho46) hb)
                                have n1_ := Aside0.mk (Kd.R_lower (Kd.R_new' ho46 (Kd.R_lt (by (with_reducible repeat (first | apply Kd.R_alloc | apply Kd.R_drewN | apply Kd.R_drew)); exact HO_3.out))) (below_size (by repeat (first | (with_reducible first | exact HB.out | apply below_alloc | apply pw_below_drewN | apply below_drew1) | exact HB.out))))
                                have n2_ := Aside0.mk (Kd.C_below (by repeat (first | (with_reducible exact HR141.out) | (with_reducible refine Kd.C_alloc ?_ _) | (with_reducible refine Kd.C_drewN ?_ _) | (with_reducible refine Kd.C_drew ?_) | exact HR141.out)) hb)
                                have n3_ := Aside0.mk (Kd.C_below (by repeat (first | (with_reducible exact HR154.out) | (with_reducible refine Kd.C_alloc ?_ _) | (with_reducible refine Kd.C_drewN ?_ _) | (with_reducible refine Kd.C_drew ?_) | exact HR154.out)) hb)
                                have n4_ := Aside0.mk (below_step (by repeat (first | (with_reducible first | exact HB.out | apply below_alloc | apply pw_below_drewN | apply below_drew1) | exact HB.out)) hb)
                                clear HO_3
                                clear HR141
                                clear HR154
                                clear HB
                                have HO_3 := n0_
                                have HO137 := n1_
                                have HR141 := n2_
                                have HR154 := n3_
                                have HB := n4_
                                clear n0_ n1_ n2_ n3_ n4_
                                clear hb ho46
                                refine hK.out _ _ trivial (fun hHeld => ?_)
                                clear hK K
                                refine norm_ (a' := ?_) ?_ ?_
                                rotate_left
                                · show Act.put _ (some 35) _ = _
                                  simp only [Act.put, List.setIfInBounds_toArray, List.set_cons_zero, List.set_cons_succ, i64_w, i32_w]
                                  rfl
                                refine two_ (i := 4) (j := 6) (Ni := some 39) (Nj := some 41) #[true, true, true, true, true, true, false, false, true, true, true, false, false] #[true, true, true, true, false, true, true, false, true, true, true, false, false] rfl rfl rfl rfl (two_of HT_.out (by kernel_rfl)) (by decide) (by decide) (fun K hK => ?_) (fun K hK => ?_)
                                · skip
                                  refine Kd.R_append_rows_step (Kd.int .i64) (w0 := w) w.heap.size (by rfl) (.tmp 35) (.tmp 38) 24 3 (.int .i64 0) 8 rfl Try.underlying24 info3 rfl (by decide) (by omega) v136 y135 y138 _ _ _ (fun k_ => some k_ ≠ (.slice Ao7 x3_1.length co7 : Value).ownBlock) (fun _ => False) rfl rfl ?aO ?aR (fun _ _ h => h) (fun _ h => h.elim) ?aF ?aB ?aS ?aL ?_
                                  (case aR => repeat (first | exact (by repeat (first | (with_reducible exact HR141.out) | (with_reducible refine Kd.C_alloc ?_ _) | (with_reducible refine Kd.C_drewN ?_ _) | (with_reducible refine Kd.C_drew ?_) | exact HR141.out)) | (with_reducible refine Kd.C_alloc ?_ _) | (with_reducible refine Kd.C_drewN ?_ _) | (with_reducible refine Kd.C_drew ?_)))
                                  (case aB => exact (by repeat (first | (with_reducible first | exact HB.out | apply below_alloc | apply pw_below_drewN | apply below_drew1) | exact HB.out)))
                                  (case aF => exact (fun k_ hk => Kd.fresh' (Kd.R_lt (by (with_reducible repeat (first | apply Kd.R_alloc | apply Kd.R_drewN | apply Kd.R_drew)); exact HO_3.out)) k_ hk))
                                  (case aO => exact (by (with_reducible repeat (first | apply Kd.R_alloc | apply Kd.R_drewN | apply Kd.R_drew)); exact Kd.R_mono HO137.out (fun _ hk => hk.2)))
                                  (case aS => exact (below_size (by repeat (first | (with_reducible first | exact HB.out | apply below_alloc | apply pw_below_drewN | apply below_drew1) | exact HB.out))))
                                  (case aL => have := LMc37.out; omega)
                                  intro v143 w47 ho hb hg hat
                                  rw [← Ny142.out] at ho
                                  have n0_ := Aside0.mk (Kd.R_after (ok := (fun _ => True)) (by (with_reducible repeat (first | apply Kd.R_alloc | apply Kd.R_drewN | apply Kd.R_drew)); exact HO_3.out) hg hat)
                                  have n1_ := Aside0.mk (hb)
                                  have n2_ := Aside0.mk ((show Kd.C (Kd.int .i64) w47 Ao7 y138.length y138 from by rw [Ny138.out]; exact Kd.C_take (m := (x5_2 : Int).toNat) ((Kd.R_reads' (Kd.R_after (ok := (fun _ => True)) (by (with_reducible repeat (first | apply Kd.R_alloc | apply Kd.R_drewN | apply Kd.R_drew)); exact HO_3.out) hg hat)).2.2) KL43.out))
                                  have n3_ := Aside0.mk ((show Kd.C (Kd.int .i64) w47 A44 y151.length y151 from by rw [Ny151.out, KA44.out]; exact Kd.C_drop (m := (x5_2 : Int).toNat) (c := co7) ((Kd.R_reads' (Kd.R_after (ok := (fun _ => True)) (by (with_reducible repeat (first | apply Kd.R_alloc | apply Kd.R_drewN | apply Kd.R_drew)); exact HO_3.out) hg hat)).2.2) KL44.out ((Kd.R_reads' (Kd.R_after (ok := (fun _ => True)) (by (with_reducible repeat (first | apply Kd.R_alloc | apply Kd.R_drewN | apply Kd.R_drew)); exact HO_3.out) hg hat)).2.1)))
                                  have n4_ := Aside0.mk (ho)
                                  clear HO_3
                                  clear HB
                                  clear HR141
                                  clear HR154
                                  clear HO137
                                  have HO_3 := n0_
                                  have HB := n1_
                                  have HR141 := n2_
                                  have HR154 := n3_
                                  have HO144 := n4_
                                  clear n0_ n1_ n2_ n3_ n4_
                                  clear ho hb hg hat
                                  refine hK.out _ _ trivial (fun hHeld => ?_)
                                  clear hK K
                                  refine norm_ (a' := ?_) ?_ ?_
                                  rotate_left
                                  · show Act.put _ (some 39) _ = _
                                    simp only [Act.put, List.setIfInBounds_toArray, List.set_cons_zero, List.set_cons_succ, i64_w, i32_w]
                                    rfl
                                  refine one_ (i := 6) (N := some 41) #[true, true, true, true, true, true, true, false, true, true, true, false, false] rfl rfl (one_of HT_.out (by kernel_rfl)) (by decide) (fun K hK => ?_)
                                  refine Kd.R_lit_step (Kd.int .i64) _ 3 ?hg (N := 41) ?hd (xs := ([x4_1] : List Int)) (inner := [.int .i64 x4_1]) (ok := fun _ => True) (okp := fun _ => True) ?hr ?hp (fun _ hk => hk) trivial (Below.refl _ _) (Nat.le_refl _) (by simp) ?_; (case hd => rfl); (case hg => rfl); (case hr => first | (go_simp; done) | (go_simp; rfl)); (case hp => exact (Reps.one (show Kd.M (Kd.int .i64) _ _ _ x4_1 [.int .i64 x4_1] from rfl) (Reps.none _ _)))
                                  intro v146 w48 ho49 hb hg_ hnew_
                                  clear hg_ hnew_
                                  (first | rw [← Ny145.out] at ho49 | (simp only [Int.reduceToNat] at ho49; rw [← Ny145.out] at ho49))
                                  have n0_ := Aside0.mk (Kd.R_elder' (by (with_reducible repeat (first | apply Kd.R_alloc | apply Kd.R_drewN | apply Kd.R_drew)); exact HO_3.out) (Kd.R_base ho49) hb)
                                  have n1_ := Aside0.mk (Kd.R_elder' (by (with_reducible repeat (first | apply Kd.R_alloc | apply Kd.R_drewN | apply Kd.R_drew)); exact HO144.out) (Kd.R_base ho49) hb)
                                  have n2_ := Aside0.mk (Kd.R_lower (Kd.R_new' (Kd.R_new' ho49 (Kd.R_lt (by (with_reducible repeat (first | apply Kd.R_alloc | apply Kd.R_drewN | apply Kd.R_drew)); exact HO_3.out))) (Kd.R_lt (by (with_reducible repeat (first | apply Kd.R_alloc | apply Kd.R_drewN | apply Kd.R_drew)); exact HO144.out))) (below_size (by repeat (first | (with_reducible first | exact HB.out | apply below_alloc | apply pw_below_drewN | apply below_drew1) | exact HB.out))))
                                  have n3_ := Aside0.mk (Kd.C_below (by repeat (first | (with_reducible exact HR141.out) | (with_reducible refine Kd.C_alloc ?_ _) | (with_reducible refine Kd.C_drewN ?_ _) | (with_reducible refine Kd.C_drew ?_) | exact HR141.out)) hb)
                                  have n4_ := Aside0.mk (Kd.C_below (by repeat (first | (with_reducible exact HR154.out) | (with_reducible refine Kd.C_alloc ?_ _) | (with_reducible refine Kd.C_drewN ?_ _) | (with_reducible refine Kd.C_drew ?_) | exact HR154.out)) hb)
                                  have n5_ := Aside0.mk (below_step (by repeat (first | (with_reducible first | exact HB.out | apply below_alloc | apply pw_below_drewN | apply below_drew1) | exact HB.out)) hb)
                                  clear HO_3
                                  clear HO144
                                  clear HR141
                                  clear HR154
                                  clear HB
                                  have HO_3 := n0_
                                  have HO144 := n1_
                                  have HO147 := n2_
                                  have HR141 := n3_
                                  have HR154 := n4_
                                  have HB := n5_
                                  clear n0_ n1_ n2_ n3_ n4_ n5_
                                  clear hb ho49
                                  refine hK.out _ _ trivial (fun hHeld => ?_)
                                  clear hK K
                                  refine norm_ (a' := ?_) ?_ ?_
                                  rotate_left
                                  · show Act.put _ (some 41) _ = _
                                    simp only [Act.put, List.setIfInBounds_toArray, List.set_cons_zero, List.set_cons_succ, i64_w, i32_w]
                                    rfl
                                  exact norm_ (by simp only [putAll, Act.put, List.setIfInBounds_toArray, List.set_cons_zero, List.set_cons_succ]) (hCont (v136, v143, v146) _ ⟨(by (with_reducible repeat (first | apply Kd.R_alloc | apply Kd.R_drewN | apply Kd.R_drew)); exact Kd.R_mono HO144.out (fun _ hk => ⟨hk.2, hk.1⟩)), (by (with_reducible repeat (first | apply Kd.R_alloc | apply Kd.R_drewN | apply Kd.R_drew)); exact Kd.R_mono HO147.out (fun _ hk => ⟨hk.2, hk.1.2⟩)), (by (with_reducible repeat (first | apply Kd.R_alloc | apply Kd.R_drewN | apply Kd.R_drew)); exact Kd.R_mono HO_3.out (fun _ hk => ⟨hk.1.2, hk.2⟩)), (by repeat (first | (with_reducible exact HR141.out) | (with_reducible refine Kd.C_alloc ?_ _) | (with_reducible refine Kd.C_drewN ?_ _) | (with_reducible refine Kd.C_drew ?_) | exact HR141.out)), (by repeat (first | (with_reducible exact HR154.out) | (with_reducible refine Kd.C_alloc ?_ _) | (with_reducible refine Kd.C_drewN ?_ _) | (with_reducible refine Kd.C_drew ?_) | exact HR154.out)), (by repeat (first | (with_reducible first | exact HB.out | apply below_alloc | apply pw_below_drewN | apply below_drew1) | exact HB.out))⟩)
                                · skip
                                  refine Kd.R_lit_step (Kd.int .i64) _ 3 ?hg (N := 41) ?hd (xs := ([x4_1] : List Int)) (inner := [.int .i64 x4_1]) (ok := fun _ => True) (okp := fun _ => True) ?hr ?hp (fun _ hk => hk) trivial (Below.refl _ _) (Nat.le_refl _) (by simp) ?_; (case hd => rfl); (case hg => rfl); (case hr => first | (go_simp; done) | (go_simp; rfl)); (case hp => exact (Reps.one (show Kd.M (Kd.int .i64) _ _ _ x4_1 [.int .i64 x4_1] from rfl) (Reps.none _ _)))
                                  intro v146 w47 ho48 hb hg_ hnew_
                                  clear hg_ hnew_
                                  (first | rw [← Ny145.out] at ho48 | (simp only [Int.reduceToNat] at ho48; rw [← Ny145.out] at ho48))
                                  have n0_ := Aside0.mk (Kd.R_elder' (by (with_reducible repeat (first | apply Kd.R_alloc | apply Kd.R_drewN | apply Kd.R_drew)); exact HO_3.out) (Kd.R_base ho48) hb)
                                  have n1_ := Aside0.mk (Kd.R_elder' (by (with_reducible repeat (first | apply Kd.R_alloc | apply Kd.R_drewN | apply Kd.R_drew)); exact HO137.out) (Kd.R_base ho48) hb)
                                  have n2_ := Aside0.mk (Kd.R_lower (Kd.R_new' (Kd.R_new' ho48 (Kd.R_lt (by (with_reducible repeat (first | apply Kd.R_alloc | apply Kd.R_drewN | apply Kd.R_drew)); exact HO_3.out))) (Kd.R_lt (by (with_reducible repeat (first | apply Kd.R_alloc | apply Kd.R_drewN | apply Kd.R_drew)); exact HO137.out))) (below_size (by repeat (first | (with_reducible first | exact HB.out | apply below_alloc | apply pw_below_drewN | apply below_drew1) | exact HB.out))))
                                  have n3_ := Aside0.mk (Kd.C_below (by repeat (first | (with_reducible exact HR141.out) | (with_reducible refine Kd.C_alloc ?_ _) | (with_reducible refine Kd.C_drewN ?_ _) | (with_reducible refine Kd.C_drew ?_) | exact HR141.out)) hb)
                                  have n4_ := Aside0.mk (Kd.C_below (by repeat (first | (with_reducible exact HR154.out) | (with_reducible refine Kd.C_alloc ?_ _) | (with_reducible refine Kd.C_drewN ?_ _) | (with_reducible refine Kd.C_drew ?_) | exact HR154.out)) hb)
                                  have n5_ := Aside0.mk (below_step (by repeat (first | (with_reducible first | exact HB.out | apply below_alloc | apply pw_below_drewN | apply below_drew1) | exact HB.out)) hb)
                                  clear HO_3
                                  clear HO137
                                  clear HR141
                                  clear HR154
                                  clear HB
                                  have HO_3 := n0_
                                  have HO137 := n1_
                                  have HO147 := n2_
                                  have HR141 := n3_
                                  have HR154 := n4_
                                  have HB := n5_
                                  clear n0_ n1_ n2_ n3_ n4_ n5_
                                  clear hb ho48
                                  refine hK.out _ _ trivial (fun hHeld => ?_)
                                  clear hK K
                                  refine norm_ (a' := ?_) ?_ ?_
                                  rotate_left
                                  · show Act.put _ (some 41) _ = _
                                    simp only [Act.put, List.setIfInBounds_toArray, List.set_cons_zero, List.set_cons_succ, i64_w, i32_w]
                                    rfl
                                  refine one_ (i := 4) (N := some 39) #[true, true, true, true, true, true, true, false, true, true, true, false, false] rfl rfl (one_of HT_.out (by kernel_rfl)) (by decide) (fun K hK => ?_)
                                  refine Kd.R_append_rows_step (Kd.int .i64) (w0 := w) w.heap.size (by rfl) (.tmp 35) (.tmp 38) 24 3 (.int .i64 0) 8 rfl Try.underlying24 info3 rfl (by decide) (by omega) v136 y135 y138 _ _ _ (fun k_ => some k_ ≠ (.slice Ao7 x3_1.length co7 : Value).ownBlock ∧ some k_ ≠ (v146 : Value).ownBlock) (fun _ => False) rfl rfl ?aO ?aR (fun _ _ h => h) (fun _ h => h.elim) ?aF ?aB ?aS ?aL ?_
                                  (case aR => repeat (first | exact (by repeat (first | (with_reducible exact HR141.out) | (with_reducible refine Kd.C_alloc ?_ _) | (with_reducible refine Kd.C_drewN ?_ _) | (with_reducible refine Kd.C_drew ?_) | exact HR141.out)) | (with_reducible refine Kd.C_alloc ?_ _) | (with_reducible refine Kd.C_drewN ?_ _) | (with_reducible refine Kd.C_drew ?_)))
                                  (case aB => exact (by repeat (first | (with_reducible first | exact HB.out | apply below_alloc | apply pw_below_drewN | apply below_drew1) | exact HB.out)))
                                  (case aF => exact (fun k_ hk => ⟨Kd.fresh' (Kd.R_lt (by (with_reducible repeat (first | apply Kd.R_alloc | apply Kd.R_drewN | apply Kd.R_drew)); exact HO_3.out)) k_ hk, Kd.fresh' (Kd.R_lt (by (with_reducible repeat (first | apply Kd.R_alloc | apply Kd.R_drewN | apply Kd.R_drew)); exact HO147.out)) k_ hk⟩))
                                  (case aO => exact (by (with_reducible repeat (first | apply Kd.R_alloc | apply Kd.R_drewN | apply Kd.R_drew)); exact Kd.R_mono HO137.out (fun _ hk => ⟨hk.1.2, hk.2⟩)))
                                  (case aS => exact (below_size (by repeat (first | (with_reducible first | exact HB.out | apply below_alloc | apply pw_below_drewN | apply below_drew1) | exact HB.out))))
                                  (case aL => have := LMc37.out; omega)
                                  intro v143 w49 ho hb hg hat
                                  rw [← Ny142.out] at ho
                                  have n0_ := Aside0.mk (Kd.R_after (ok := (fun k_ => some k_ ≠ (v146 : Value).ownBlock)) (by (with_reducible repeat (first | apply Kd.R_alloc | apply Kd.R_drewN | apply Kd.R_drew)); exact Kd.R_mono HO_3.out (fun _ hk => ⟨hk.2, hk.1.2⟩)) hg hat)
                                  have n1_ := Aside0.mk (Kd.R_after (ok := (fun k_ => some k_ ≠ (.slice Ao7 x3_1.length co7 : Value).ownBlock)) (by (with_reducible repeat (first | apply Kd.R_alloc | apply Kd.R_drewN | apply Kd.R_drew)); exact Kd.R_mono HO147.out (fun _ hk => ⟨hk.1.2, hk.2⟩)) hg hat)
                                  have n2_ := Aside0.mk (hb)
                                  have n3_ := Aside0.mk ((show Kd.C (Kd.int .i64) w49 Ao7 y138.length y138 from by rw [Ny138.out]; exact Kd.C_take (m := (x5_2 : Int).toNat) ((Kd.R_reads' (Kd.R_after (ok := (fun k_ => some k_ ≠ (v146 : Value).ownBlock)) (by (with_reducible repeat (first | apply Kd.R_alloc | apply Kd.R_drewN | apply Kd.R_drew)); exact Kd.R_mono HO_3.out (fun _ hk => ⟨hk.2, hk.1.2⟩)) hg hat)).2.2) KL43.out))
                                  have n4_ := Aside0.mk ((show Kd.C (Kd.int .i64) w49 A44 y151.length y151 from by rw [Ny151.out, KA44.out]; exact Kd.C_drop (m := (x5_2 : Int).toNat) (c := co7) ((Kd.R_reads' (Kd.R_after (ok := (fun k_ => some k_ ≠ (v146 : Value).ownBlock)) (by (with_reducible repeat (first | apply Kd.R_alloc | apply Kd.R_drewN | apply Kd.R_drew)); exact Kd.R_mono HO_3.out (fun _ hk => ⟨hk.2, hk.1.2⟩)) hg hat)).2.2) KL44.out ((Kd.R_reads' (Kd.R_after (ok := (fun k_ => some k_ ≠ (v146 : Value).ownBlock)) (by (with_reducible repeat (first | apply Kd.R_alloc | apply Kd.R_drewN | apply Kd.R_drew)); exact Kd.R_mono HO_3.out (fun _ hk => ⟨hk.2, hk.1.2⟩)) hg hat)).2.1)))
                                  have n5_ := Aside0.mk (ho)
                                  clear HO_3
                                  clear HO147
                                  clear HB
                                  clear HR141
                                  clear HR154
                                  clear HO137
                                  have HO_3 := n0_
                                  have HO147 := n1_
                                  have HB := n2_
                                  have HR141 := n3_
                                  have HR154 := n4_
                                  have HO144 := n5_
                                  clear n0_ n1_ n2_ n3_ n4_ n5_
                                  clear ho hb hg hat
                                  refine hK.out _ _ trivial (fun hHeld => ?_)
                                  clear hK K
                                  refine norm_ (a' := ?_) ?_ ?_
                                  rotate_left
                                  · show Act.put _ (some 39) _ = _
                                    simp only [Act.put, List.setIfInBounds_toArray, List.set_cons_zero, List.set_cons_succ, i64_w, i32_w]
                                    rfl
                                  exact norm_ (by simp only [putAll, Act.put, List.setIfInBounds_toArray, List.set_cons_zero, List.set_cons_succ]) (hCont (v136, v143, v146) _ ⟨(by (with_reducible repeat (first | apply Kd.R_alloc | apply Kd.R_drewN | apply Kd.R_drew)); exact Kd.R_mono HO144.out (fun _ hk => ⟨hk.2, hk.1⟩)), (by (with_reducible repeat (first | apply Kd.R_alloc | apply Kd.R_drewN | apply Kd.R_drew)); exact Kd.R_mono HO147.out (fun _ hk => ⟨hk.2, hk.1⟩)), (by (with_reducible repeat (first | apply Kd.R_alloc | apply Kd.R_drewN | apply Kd.R_drew)); exact Kd.R_mono HO_3.out (fun _ hk => ⟨hk.2, hk.1⟩)), (by repeat (first | (with_reducible exact HR141.out) | (with_reducible refine Kd.C_alloc ?_ _) | (with_reducible refine Kd.C_drewN ?_ _) | (with_reducible refine Kd.C_drew ?_) | exact HR141.out)), (by repeat (first | (with_reducible exact HR154.out) | (with_reducible refine Kd.C_alloc ?_ _) | (with_reducible refine Kd.C_drewN ?_ _) | (with_reducible refine Kd.C_drew ?_) | exact HR154.out)), (by repeat (first | (with_reducible first | exact HB.out | apply below_alloc | apply pw_below_drewN | apply below_drew1) | exact HB.out))⟩)
                              · skip
                                refine Kd.R_lit_step (Kd.int .i64) _ 3 ?hg (N := 41) ?hd (xs := ([x4_1] : List Int)) (inner := [.int .i64 x4_1]) (ok := fun _ => True) (okp := fun _ => True) ?hr ?hp (fun _ hk => hk) trivial (Below.refl _ _) (Nat.le_refl _) (by simp) ?_; (case hd => rfl); (case hg => rfl); (case hr => first | (go_simp; done) | (go_simp; rfl)); (case hp => exact (Reps.one (show Kd.M (Kd.int .i64) _ _ _ x4_1 [.int .i64 x4_1] from rfl) (Reps.none _ _)))
                                intro v146 w45 ho46 hb hg_ hnew_
                                clear hg_ hnew_
                                (first | rw [← Ny145.out] at ho46 | (simp only [Int.reduceToNat] at ho46; rw [← Ny145.out] at ho46))
                                have n0_ := Aside0.mk (Kd.R_elder' (by (with_reducible repeat (first | apply Kd.R_alloc | apply Kd.R_drewN | apply Kd.R_drew)); exact HO_3.out) (Kd.R_base ho46) hb)
                                have n1_ := Aside0.mk (Kd.R_lower (Kd.R_new' ho46 (Kd.R_lt (by (with_reducible repeat (first | apply Kd.R_alloc | apply Kd.R_drewN | apply Kd.R_drew)); exact HO_3.out))) (below_size (by repeat (first | (with_reducible first | exact HB.out | apply below_alloc | apply pw_below_drewN | apply below_drew1) | exact HB.out))))
                                have n2_ := Aside0.mk (Kd.C_below (by repeat (first | (with_reducible exact HR141.out) | (with_reducible refine Kd.C_alloc ?_ _) | (with_reducible refine Kd.C_drewN ?_ _) | (with_reducible refine Kd.C_drew ?_) | exact HR141.out)) hb)
                                have n3_ := Aside0.mk (Kd.C_below (by repeat (first | (with_reducible exact HR154.out) | (with_reducible refine Kd.C_alloc ?_ _) | (with_reducible refine Kd.C_drewN ?_ _) | (with_reducible refine Kd.C_drew ?_) | exact HR154.out)) hb)
                                have n4_ := Aside0.mk (below_step (by repeat (first | (with_reducible first | exact HB.out | apply below_alloc | apply pw_below_drewN | apply below_drew1) | exact HB.out)) hb)
                                clear HO_3
                                clear HR141
                                clear HR154
                                clear HB
                                have HO_3 := n0_
                                have HO147 := n1_
                                have HR141 := n2_
                                have HR154 := n3_
                                have HB := n4_
                                clear n0_ n1_ n2_ n3_ n4_
                                clear hb ho46
                                refine hK.out _ _ trivial (fun hHeld => ?_)
                                clear hK K
                                refine norm_ (a' := ?_) ?_ ?_
                                rotate_left
                                · show Act.put _ (some 41) _ = _
                                  simp only [Act.put, List.setIfInBounds_toArray, List.set_cons_zero, List.set_cons_succ, i64_w, i32_w]
                                  rfl
                                refine one_ (i := 0) (N := some 35) #[true, true, true, true, false, true, true, false, true, true, true, false, false] rfl rfl (one_of HT_.out (by kernel_rfl)) (by decide) (fun K hK => ?_)
                                refine Kd.R_lit_step (Kd.int .i64) _ 3 ?hg (N := 35) ?hd (xs := ([] : List Int)) (inner := []) (ok := fun _ => True) (okp := fun _ => True) ?hr ?hp (fun _ hk => hk) trivial (Below.refl _ _) (Nat.le_refl _) (by simp) ?_; (case hd => rfl); (case hg => rfl); (case hr => first | (go_simp; done) | (go_simp; rfl)); (case hp => exact (Reps.none _ _))
                                intro v136 w47 ho48 hb hg_ hnew_
                                clear hg_ hnew_
                                (first | rw [← Ny135.out] at ho48 | (simp only [Int.reduceToNat] at ho48; rw [← Ny135.out] at ho48))
                                have n0_ := Aside0.mk (Kd.R_elder' (by (with_reducible repeat (first | apply Kd.R_alloc | apply Kd.R_drewN | apply Kd.R_drew)); exact HO_3.out) (Kd.R_base ho48) hb)
                                have n1_ := Aside0.mk (Kd.R_elder' (by (with_reducible repeat (first | apply Kd.R_alloc | apply Kd.R_drewN | apply Kd.R_drew)); exact HO147.out) (Kd.R_base ho48) hb)
                                have n2_ := Aside0.mk (Kd.R_lower (Kd.R_new' (Kd.R_new' ho48 (Kd.R_lt (by (with_reducible repeat (first | apply Kd.R_alloc | apply Kd.R_drewN | apply Kd.R_drew)); exact HO_3.out))) (Kd.R_lt (by (with_reducible repeat (first | apply Kd.R_alloc | apply Kd.R_drewN | apply Kd.R_drew)); exact HO147.out))) (below_size (by repeat (first | (with_reducible first | exact HB.out | apply below_alloc | apply pw_below_drewN | apply below_drew1) | exact HB.out))))
                                have n3_ := Aside0.mk (Kd.C_below (by repeat (first | (with_reducible exact HR141.out) | (with_reducible refine Kd.C_alloc ?_ _) | (with_reducible refine Kd.C_drewN ?_ _) | (with_reducible refine Kd.C_drew ?_) | exact HR141.out)) hb)
                                have n4_ := Aside0.mk (Kd.C_below (by repeat (first | (with_reducible exact HR154.out) | (with_reducible refine Kd.C_alloc ?_ _) | (with_reducible refine Kd.C_drewN ?_ _) | (with_reducible refine Kd.C_drew ?_) | exact HR154.out)) hb)
                                have n5_ := Aside0.mk (below_step (by repeat (first | (with_reducible first | exact HB.out | apply below_alloc | apply pw_below_drewN | apply below_drew1) | exact HB.out)) hb)
                                clear HO_3
                                clear HO147
                                clear HR141
                                clear HR154
                                clear HB
                                have HO_3 := n0_
                                have HO147 := n1_
                                have HO137 := n2_
                                have HR141 := n3_
                                have HR154 := n4_
                                have HB := n5_
                                clear n0_ n1_ n2_ n3_ n4_ n5_
                                clear hb ho48
                                refine hK.out _ _ trivial (fun hHeld => ?_)
                                clear hK K
                                refine norm_ (a' := ?_) ?_ ?_
                                rotate_left
                                · show Act.put _ (some 35) _ = _
                                  simp only [Act.put, List.setIfInBounds_toArray, List.set_cons_zero, List.set_cons_succ, i64_w, i32_w]
                                  rfl
                                refine one_ (i := 4) (N := some 39) #[true, true, true, true, true, true, true, false, true, true, true, false, false] rfl rfl (one_of HT_.out (by kernel_rfl)) (by decide) (fun K hK => ?_)
                                refine Kd.R_append_rows_step (Kd.int .i64) (w0 := w) w.heap.size (by rfl) (.tmp 35) (.tmp 38) 24 3 (.int .i64 0) 8 rfl Try.underlying24 info3 rfl (by decide) (by omega) v136 y135 y138 _ _ _ (fun k_ => some k_ ≠ (.slice Ao7 x3_1.length co7 : Value).ownBlock ∧ some k_ ≠ (v146 : Value).ownBlock) (fun _ => False) rfl rfl ?aO ?aR (fun _ _ h => h) (fun _ h => h.elim) ?aF ?aB ?aS ?aL ?_
                                (case aR => repeat (first | exact (by repeat (first | (with_reducible exact HR141.out) | (with_reducible refine Kd.C_alloc ?_ _) | (with_reducible refine Kd.C_drewN ?_ _) | (with_reducible refine Kd.C_drew ?_) | exact HR141.out)) | (with_reducible refine Kd.C_alloc ?_ _) | (with_reducible refine Kd.C_drewN ?_ _) | (with_reducible refine Kd.C_drew ?_)))
                                (case aB => exact (by repeat (first | (with_reducible first | exact HB.out | apply below_alloc | apply pw_below_drewN | apply below_drew1) | exact HB.out)))
                                (case aF => exact (fun k_ hk => ⟨Kd.fresh' (Kd.R_lt (by (with_reducible repeat (first | apply Kd.R_alloc | apply Kd.R_drewN | apply Kd.R_drew)); exact HO_3.out)) k_ hk, Kd.fresh' (Kd.R_lt (by (with_reducible repeat (first | apply Kd.R_alloc | apply Kd.R_drewN | apply Kd.R_drew)); exact HO147.out)) k_ hk⟩))
                                (case aO => exact (by (with_reducible repeat (first | apply Kd.R_alloc | apply Kd.R_drewN | apply Kd.R_drew)); exact Kd.R_mono HO137.out (fun _ hk => ⟨hk.1.2, hk.2⟩)))
                                (case aS => exact (below_size (by repeat (first | (with_reducible first | exact HB.out | apply below_alloc | apply pw_below_drewN | apply below_drew1) | exact HB.out))))
                                (case aL => have := LMc37.out; omega)
                                intro v143 w49 ho hb hg hat
                                rw [← Ny142.out] at ho
                                have n0_ := Aside0.mk (Kd.R_after (ok := (fun k_ => some k_ ≠ (v146 : Value).ownBlock)) (by (with_reducible repeat (first | apply Kd.R_alloc | apply Kd.R_drewN | apply Kd.R_drew)); exact Kd.R_mono HO_3.out (fun _ hk => ⟨hk.1.2, hk.2⟩)) hg hat)
                                have n1_ := Aside0.mk (Kd.R_after (ok := (fun k_ => some k_ ≠ (.slice Ao7 x3_1.length co7 : Value).ownBlock)) (by (with_reducible repeat (first | apply Kd.R_alloc | apply Kd.R_drewN | apply Kd.R_drew)); exact Kd.R_mono HO147.out (fun _ hk => ⟨hk.1.2, hk.2⟩)) hg hat)
                                have n2_ := Aside0.mk (hb)
                                have n3_ := Aside0.mk ((show Kd.C (Kd.int .i64) w49 Ao7 y138.length y138 from by rw [Ny138.out]; exact Kd.C_take (m := (x5_2 : Int).toNat) ((Kd.R_reads' (Kd.R_after (ok := (fun k_ => some k_ ≠ (v146 : Value).ownBlock)) (by (with_reducible repeat (first | apply Kd.R_alloc | apply Kd.R_drewN | apply Kd.R_drew)); exact Kd.R_mono HO_3.out (fun _ hk => ⟨hk.1.2, hk.2⟩)) hg hat)).2.2) KL43.out))
                                have n4_ := Aside0.mk ((show Kd.C (Kd.int .i64) w49 A44 y151.length y151 from by rw [Ny151.out, KA44.out]; exact Kd.C_drop (m := (x5_2 : Int).toNat) (c := co7) ((Kd.R_reads' (Kd.R_after (ok := (fun k_ => some k_ ≠ (v146 : Value).ownBlock)) (by (with_reducible repeat (first | apply Kd.R_alloc | apply Kd.R_drewN | apply Kd.R_drew)); exact Kd.R_mono HO_3.out (fun _ hk => ⟨hk.1.2, hk.2⟩)) hg hat)).2.2) KL44.out ((Kd.R_reads' (Kd.R_after (ok := (fun k_ => some k_ ≠ (v146 : Value).ownBlock)) (by (with_reducible repeat (first | apply Kd.R_alloc | apply Kd.R_drewN | apply Kd.R_drew)); exact Kd.R_mono HO_3.out (fun _ hk => ⟨hk.1.2, hk.2⟩)) hg hat)).2.1)))
                                have n5_ := Aside0.mk (ho)
                                clear HO_3
                                clear HO147
                                clear HB
                                clear HR141
                                clear HR154
                                clear HO137
                                have HO_3 := n0_
                                have HO147 := n1_
                                have HB := n2_
                                have HR141 := n3_
                                have HR154 := n4_
                                have HO144 := n5_
                                clear n0_ n1_ n2_ n3_ n4_ n5_
                                clear ho hb hg hat
                                refine hK.out _ _ trivial (fun hHeld => ?_)
                                clear hK K
                                refine norm_ (a' := ?_) ?_ ?_
                                rotate_left
                                · show Act.put _ (some 39) _ = _
                                  simp only [Act.put, List.setIfInBounds_toArray, List.set_cons_zero, List.set_cons_succ, i64_w, i32_w]
                                  rfl
                                exact norm_ (by simp only [putAll, Act.put, List.setIfInBounds_toArray, List.set_cons_zero, List.set_cons_succ]) (hCont (v136, v143, v146) _ ⟨(by (with_reducible repeat (first | apply Kd.R_alloc | apply Kd.R_drewN | apply Kd.R_drew)); exact Kd.R_mono HO144.out (fun _ hk => ⟨hk.2, hk.1⟩)), (by (with_reducible repeat (first | apply Kd.R_alloc | apply Kd.R_drewN | apply Kd.R_drew)); exact Kd.R_mono HO147.out (fun _ hk => ⟨hk.2, hk.1⟩)), (by (with_reducible repeat (first | apply Kd.R_alloc | apply Kd.R_drewN | apply Kd.R_drew)); exact Kd.R_mono HO_3.out (fun _ hk => ⟨hk.2, hk.1⟩)), (by repeat (first | (with_reducible exact HR141.out) | (with_reducible refine Kd.C_alloc ?_ _) | (with_reducible refine Kd.C_drewN ?_ _) | (with_reducible refine Kd.C_drew ?_) | exact HR141.out)), (by repeat (first | (with_reducible exact HR154.out) | (with_reducible refine Kd.C_alloc ?_ _) | (with_reducible refine Kd.C_drewN ?_ _) | (with_reducible refine Kd.C_drew ?_) | exact HR154.out)), (by repeat (first | (with_reducible first | exact HB.out | apply below_alloc | apply pw_below_drewN | apply below_drew1) | exact HB.out))⟩)
                            rintro ⟨v136, v143, v146⟩ w50 ⟨h0_, h1_, h2_, h3_, h4_, h5_⟩
                            have n0_ : Aside0 (Kd.R (Kd.int .i64) 3 w50 w.heap.size (fun k_ => some k_ ≠ (v146 : Value).ownBlock ∧ some k_ ≠ (.slice Ao7 x3_1.length co7 : Value).ownBlock) v143 y142) := ⟨h0_⟩
                            have n1_ : Aside0 (Kd.R (Kd.int .i64) 3 w50 w.heap.size (fun k_ => some k_ ≠ (v143 : Value).ownBlock ∧ some k_ ≠ (.slice Ao7 x3_1.length co7 : Value).ownBlock) v146 y145) := ⟨h1_⟩
                            have n2_ : Aside0 (Kd.R (Kd.int .i64) 3 w50 w.heap.size (fun k_ => some k_ ≠ (v143 : Value).ownBlock ∧ some k_ ≠ (v146 : Value).ownBlock) (.slice Ao7 x3_1.length co7) x3_1) := ⟨h2_⟩
                            have n3_ : Aside0 (Kd.C (Kd.int .i64) w50 Ao7 y138.length y138) := ⟨h3_⟩
                            have n4_ : Aside0 (Kd.C (Kd.int .i64) w50 A44 y151.length y151) := ⟨h4_⟩
                            have n5_ : Aside0 (Below w.heap.size w w50) := ⟨h5_⟩
                            clear HO_3
                            clear HB
                            clear h0_ h1_ h2_ h3_ h4_ h5_
                            have HO144 := n0_
                            have HO147 := n1_
                            have HO_3 := n2_
                            have HR141 := n3_
                            have HR154 := n4_
                            have HB := n5_
                            clear n0_ n1_ n2_ n3_ n4_ n5_
                            have hHeld := trivial
                            obtain ⟨Ao52, co52, eo52⟩ := Kd.R_slice HO147.out
                            (first | subst eo52 | (injection eo52 with f1_ f2_ f3_; have f4_ := f1_.symm; have f5_ := f3_.symm; clear f1_ f2_ f3_; subst f4_; subst f5_))
                            refine norm_ (a' := ?_) ?_ ?_
                            rotate_left
                            · simp only [putAll, Act.put, List.setIfInBounds_toArray, List.set_cons_zero, List.set_cons_succ]
                              rfl
                            refine one_ (i := 7) (N := some 42) #[true, true, true, true, true, true, true, true, true, true, true, false, false] rfl rfl (one_of HT_.out (by kernel_rfl)) (by decide) (fun K hK => ?_)
                            refine Kd.R_append_rows_step (Kd.int .i64) (w0 := w) w.heap.size (by rfl) (.tmp 39) (.tmp 41) 24 3 (.int .i64 0) 8 rfl Try.underlying24 info3 rfl (by decide) (by omega) v143 y142 y145 _ _ _ (fun k_ => some k_ ≠ (.slice Ao7 x3_1.length co7 : Value).ownBlock ∧ some k_ ≠ (.slice Ao52 y145.length co52 : Value).ownBlock) (fun _ => False) rfl rfl ?aO ?aR (fun _ _ h => h) (fun _ h => h.elim) ?aF ?aB ?aS ?aL ?_
                            (case aR => repeat (first | exact (Kd.R_reads' HO147.out).2.2 | (with_reducible refine Kd.C_alloc ?_ _) | (with_reducible refine Kd.C_drewN ?_ _) | (with_reducible refine Kd.C_drew ?_)))
                            (case aB => exact (by repeat (first | (with_reducible first | exact HB.out | apply below_alloc | apply pw_below_drewN | apply below_drew1) | exact HB.out)))
                            (case aF => exact (fun k_ hk => ⟨Kd.fresh' (Kd.R_lt (by (with_reducible repeat (first | apply Kd.R_alloc | apply Kd.R_drewN | apply Kd.R_drew)); exact HO_3.out)) k_ hk, Kd.fresh' (Kd.R_lt (by (with_reducible repeat (first | apply Kd.R_alloc | apply Kd.R_drewN | apply Kd.R_drew)); exact HO147.out)) k_ hk⟩))
                            (case aO => exact (by (with_reducible repeat (first | apply Kd.R_alloc | apply Kd.R_drewN | apply Kd.R_drew)); exact Kd.R_mono HO144.out (fun _ hk => ⟨hk.2, hk.1⟩)))
                            (case aS => exact (below_size (by repeat (first | (with_reducible first | exact HB.out | apply below_alloc | apply pw_below_drewN | apply below_drew1) | exact HB.out))))
                            (case aL => have := LMc38.out; omega)
                            intro v149 w51 ho hb hg hat
                            rw [← Ny148.out] at ho
                            have n0_ := Aside0.mk (Kd.R_after (ok := (fun k_ => some k_ ≠ (.slice Ao52 y145.length co52 : Value).ownBlock)) (by (with_reducible repeat (first | apply Kd.R_alloc | apply Kd.R_drewN | apply Kd.R_drew)); exact Kd.R_mono HO_3.out (fun _ hk => ⟨hk.2, hk.1⟩)) hg hat)
                            have n1_ := Aside0.mk (Kd.R_after (ok := (fun k_ => some k_ ≠ (.slice Ao7 x3_1.length co7 : Value).ownBlock)) (by (with_reducible repeat (first | apply Kd.R_alloc | apply Kd.R_drewN | apply Kd.R_drew)); exact Kd.R_mono HO147.out (fun _ hk => ⟨hk.2, hk.1⟩)) hg hat)
                            have n2_ := Aside0.mk (hb)
                            have n3_ := Aside0.mk ((show Kd.C (Kd.int .i64) w51 Ao7 y138.length y138 from by rw [Ny138.out]; exact Kd.C_take (m := (x5_2 : Int).toNat) ((Kd.R_reads' (Kd.R_after (ok := (fun k_ => some k_ ≠ (.slice Ao52 y145.length co52 : Value).ownBlock)) (by (with_reducible repeat (first | apply Kd.R_alloc | apply Kd.R_drewN | apply Kd.R_drew)); exact Kd.R_mono HO_3.out (fun _ hk => ⟨hk.2, hk.1⟩)) hg hat)).2.2) KL43.out))
                            have n4_ := Aside0.mk ((show Kd.C (Kd.int .i64) w51 A44 y151.length y151 from by rw [Ny151.out, KA44.out]; exact Kd.C_drop (m := (x5_2 : Int).toNat) (c := co7) ((Kd.R_reads' (Kd.R_after (ok := (fun k_ => some k_ ≠ (.slice Ao52 y145.length co52 : Value).ownBlock)) (by (with_reducible repeat (first | apply Kd.R_alloc | apply Kd.R_drewN | apply Kd.R_drew)); exact Kd.R_mono HO_3.out (fun _ hk => ⟨hk.2, hk.1⟩)) hg hat)).2.2) KL44.out ((Kd.R_reads' (Kd.R_after (ok := (fun k_ => some k_ ≠ (.slice Ao52 y145.length co52 : Value).ownBlock)) (by (with_reducible repeat (first | apply Kd.R_alloc | apply Kd.R_drewN | apply Kd.R_drew)); exact Kd.R_mono HO_3.out (fun _ hk => ⟨hk.2, hk.1⟩)) hg hat)).2.1)))
                            have n5_ := Aside0.mk (ho)
                            clear HO_3
                            clear HO147
                            clear HB
                            clear HR141
                            clear HR154
                            clear HO144
                            have HO_3 := n0_
                            have HO147 := n1_
                            have HB := n2_
                            have HR141 := n3_
                            have HR154 := n4_
                            have HO150 := n5_
                            clear n0_ n1_ n2_ n3_ n4_ n5_
                            clear ho hb hg hat
                            refine hK.out _ _ trivial (fun hHeld => ?_)
                            clear hK K
                            refine norm_ (a' := ?_) ?_ ?_
                            rotate_left
                            · show Act.put _ (some 42) _ = _
                              simp only [Act.put, List.setIfInBounds_toArray, List.set_cons_zero, List.set_cons_succ, i64_w, i32_w]
                              rfl
                            refine one_ (i := 11) (N := some 46) #[true, true, true, true, true, true, true, true, true, true, true, true, false] rfl rfl (one_of HT_.out (by kernel_rfl)) (by decide) (fun K hK => ?_)
                            refine Kd.R_append_rows_step (Kd.int .i64) (w0 := w) w.heap.size (by rfl) (.tmp 42) (.tmp 45) 24 3 (.int .i64 0) 8 rfl Try.underlying24 info3 rfl (by decide) (by omega) v149 y148 y151 _ _ _ (fun k_ => some k_ ≠ (.slice Ao7 x3_1.length co7 : Value).ownBlock ∧ some k_ ≠ (.slice Ao52 y145.length co52 : Value).ownBlock) (fun _ => False) rfl rfl ?aO ?aR (fun _ _ h => h) (fun _ h => h.elim) ?aF ?aB ?aS ?aL ?_
                            (case aR => repeat (first | exact (by repeat (first | (with_reducible exact HR154.out) | (with_reducible refine Kd.C_alloc ?_ _) | (with_reducible refine Kd.C_drewN ?_ _) | (with_reducible refine Kd.C_drew ?_) | exact HR154.out)) | (with_reducible refine Kd.C_alloc ?_ _) | (with_reducible refine Kd.C_drewN ?_ _) | (with_reducible refine Kd.C_drew ?_)))
                            (case aB => exact (by repeat (first | (with_reducible first | exact HB.out | apply below_alloc | apply pw_below_drewN | apply below_drew1) | exact HB.out)))
                            (case aF => exact (fun k_ hk => ⟨Kd.fresh' (Kd.R_lt (by (with_reducible repeat (first | apply Kd.R_alloc | apply Kd.R_drewN | apply Kd.R_drew)); exact HO_3.out)) k_ hk, Kd.fresh' (Kd.R_lt (by (with_reducible repeat (first | apply Kd.R_alloc | apply Kd.R_drewN | apply Kd.R_drew)); exact HO147.out)) k_ hk⟩))
                            (case aO => exact (by (with_reducible repeat (first | apply Kd.R_alloc | apply Kd.R_drewN | apply Kd.R_drew)); exact HO150.out))
                            (case aS => exact (below_size (by repeat (first | (with_reducible first | exact HB.out | apply below_alloc | apply pw_below_drewN | apply below_drew1) | exact HB.out))))
                            (case aL => have := LMc41.out; omega)
                            intro v156 w53 ho hb hg hat
                            rw [← Ny155.out] at ho
                            have n0_ := Aside0.mk (Kd.R_after (ok := (fun k_ => some k_ ≠ (.slice Ao52 y145.length co52 : Value).ownBlock)) (by (with_reducible repeat (first | apply Kd.R_alloc | apply Kd.R_drewN | apply Kd.R_drew)); exact HO_3.out) hg hat)
                            have n1_ := Aside0.mk (Kd.R_after (ok := (fun k_ => some k_ ≠ (.slice Ao7 x3_1.length co7 : Value).ownBlock)) (by (with_reducible repeat (first | apply Kd.R_alloc | apply Kd.R_drewN | apply Kd.R_drew)); exact HO147.out) hg hat)
                            have n2_ := Aside0.mk (hb)
                            have n3_ := Aside0.mk ((show Kd.C (Kd.int .i64) w53 Ao7 y138.length y138 from by rw [Ny138.out]; exact Kd.C_take (m := (x5_2 : Int).toNat) ((Kd.R_reads' (Kd.R_after (ok := (fun k_ => some k_ ≠ (.slice Ao52 y145.length co52 : Value).ownBlock)) (by (with_reducible repeat (first | apply Kd.R_alloc | apply Kd.R_drewN | apply Kd.R_drew)); exact HO_3.out) hg hat)).2.2) KL43.out))
                            have n4_ := Aside0.mk ((show Kd.C (Kd.int .i64) w53 A44 y151.length y151 from by rw [Ny151.out, KA44.out]; exact Kd.C_drop (m := (x5_2 : Int).toNat) (c := co7) ((Kd.R_reads' (Kd.R_after (ok := (fun k_ => some k_ ≠ (.slice Ao52 y145.length co52 : Value).ownBlock)) (by (with_reducible repeat (first | apply Kd.R_alloc | apply Kd.R_drewN | apply Kd.R_drew)); exact HO_3.out) hg hat)).2.2) KL44.out ((Kd.R_reads' (Kd.R_after (ok := (fun k_ => some k_ ≠ (.slice Ao52 y145.length co52 : Value).ownBlock)) (by (with_reducible repeat (first | apply Kd.R_alloc | apply Kd.R_drewN | apply Kd.R_drew)); exact HO_3.out) hg hat)).2.1)))
                            have n5_ := Aside0.mk (ho)
                            clear HO_3
                            clear HO147
                            clear HB
                            clear HR141
                            clear HR154
                            clear HO150
                            have HO_3 := n0_
                            have HO147 := n1_
                            have HB := n2_
                            have HR141 := n3_
                            have HR154 := n4_
                            have HO157 := n5_
                            clear n0_ n1_ n2_ n3_ n4_ n5_
                            clear ho hb hg hat
                            refine hK.out _ _ trivial (fun hHeld => ?_)
                            clear hK K
                            refine norm_ (a' := ?_) ?_ ?_
                            rotate_left
                            · show Act.put _ (some 46) _ = _
                              simp only [Act.put, List.setIfInBounds_toArray, List.set_cons_zero, List.set_cons_succ, i64_w, i32_w]
                              rfl
                            refine pure_ (i := 12) (N := some 3) (v := ?_) (a' := ?_) #[true, true, true, true, true, true, true, true, true, true, true, true, true] rfl rfl (any_of HT_.out (by kernel_rfl)) (fun _ _ _ h => h) (Or.inl ⟨by rfl, ?_⟩) ?_ ?_
                            rotate_left
                            · intro w'
                              go_simp
                              with_reducible rfl
                            rotate_left
                            · simp only [Act.put, List.setIfInBounds_toArray, List.set_cons_zero, List.set_cons_succ, i64_w, i32_w]
                              rfl
                            refine done_ (done_of HT_.out (by kernel_rfl)) ?_
                            try go_wp2
                            go_roundg k2
                            case measure => have := HK1.out; have := HK2.out; omega
                            case rel => exact ⟨(y155), (wrap64 (x4_1 + 1)), (by first | rfl | (simp; done) | (simp [*]; done)), H', ⟨by have := HK1.out; have := HK2.out; omega⟩, ⟨by (with_reducible repeat (first | apply Kd.R_alloc | apply Kd.R_drewN | apply Kd.R_drew)); exact Kd.R_mono HO157.out (fun _ hk => trivial)⟩, ⟨by repeat (first | (with_reducible first | exact HB.out | apply below_alloc | apply pw_below_drewN | apply below_drew1) | exact HB.out)⟩⟩
                          · rw [if_neg c41] at H
                            exact absurd H (by simp)
                        · rw [if_neg c38] at H
                          exact absurd H (by simp)
                      · rw [if_neg c37] at H
                        exact absurd H (by simp)
                    · rw [if_neg c36] at H
                      exact absurd H (by simp)
                  · rw [if_neg c35] at H
                    exact absurd H (by simp)
          · rw [if_neg c6] at H
            have c6b0 : (((rd_T32 l0 x4_1).f7) == 1) = false := beq_eq_false_iff_ne.mpr c6
            have c6b1 : (((rd_T32 l0 x4_1).f7) != 1) = true := bne_iff_ne.mpr c6
            have H' := Aside0.mk H
            clear H
            have p109 : 0 ≤ (x4_1 : Int) := of_decide_eq_true (by first | (with_reducible assumption) | assumption)
            have q109 : x4_1 < (l0.length : Int) := of_decide_eq_true (by first | (with_reducible assumption) | assumption)
            obtain ⟨ad109, A109_11, c109_11, e109, hx109_0, hx109_1, hx109_2, hx109_3, hx109_4, hx109_5, hx109_6, hx109_7, hx109_8, hx109_9, hx109_10, hx109_11, hl109_11, hi109_11⟩ := at_T32 HR0.out x4_1 p109 q109
            cases e109
            replace hx109_0 := (HB.out.cell (World.block_lt_of_cell? w _ hx109_0)).trans hx109_0
            replace hx109_1 := (HB.out.cell (World.block_lt_of_cell? w _ hx109_1)).trans hx109_1
            replace hx109_2 := (HB.out.cell (World.block_lt_of_cell? w _ hx109_2)).trans hx109_2
            replace hx109_3 := (HB.out.cell (World.block_lt_of_cell? w _ hx109_3)).trans hx109_3
            replace hx109_4 := (HB.out.cell (World.block_lt_of_cell? w _ hx109_4)).trans hx109_4
            replace hx109_5 := (HB.out.cell (World.block_lt_of_cell? w _ hx109_5)).trans hx109_5
            replace hx109_6 := (HB.out.cell (World.block_lt_of_cell? w _ hx109_6)).trans hx109_6
            replace hx109_7 := (HB.out.cell (World.block_lt_of_cell? w _ hx109_7)).trans hx109_7
            replace hx109_8 := (HB.out.cell (World.block_lt_of_cell? w _ hx109_8)).trans hx109_8
            replace hx109_9 := (HB.out.cell (World.block_lt_of_cell? w _ hx109_9)).trans hx109_9
            replace hx109_10 := (HB.out.cell (World.block_lt_of_cell? w _ hx109_10)).trans hx109_10
            replace hx109_11 := (HB.out.cell (World.block_lt_of_cell? w _ hx109_11)).trans hx109_11
            have HR109_11 := Aside0.mk hi109_11
            have HC109_11 := Aside0.mk hl109_11
            clear hi109_11 hl109_11
            replace p109 := eq_true p109
            replace q109 := eq_true q109
            go_wp2
            go_roundg k1
            case measure => have := HK1.out; omega
            case rel => exact ⟨(x3_1), (wrap64 (x4_1 + 1)), (by first | rfl | (simp; done) | (simp [*]; done)), H', ⟨by have := HK1.out; omega⟩, ⟨by (with_reducible repeat (first | apply Kd.R_alloc | apply Kd.R_drewN | apply Kd.R_drew)); exact HO_3.out⟩, ⟨by repeat (first | (with_reducible first | exact HB.out | apply below_alloc | apply pw_below_drewN | apply below_drew1) | exact HB.out)⟩⟩
        · rw [if_neg c5] at H
          exact absurd H (by simp)
      · rw [if_neg c4] at H
        have c4b0 : decide (x4_1 < (l0.length : Int)) = false := decide_eq_false c4
        clear c4
        obtain rfl := Option.some.inj H
        go_wp2
        go_ret
        exact ⟨_, by first | rfl | (simp [errW_none, errW_some] <;> rfl) | (simp [*, errW_none, errW_some] <;> rfl), by (with_reducible repeat (first | apply Kd.R_alloc | apply Kd.R_drewN | apply Kd.R_drew)); exact HO_3.out, by repeat (first | (with_reducible first | exact HB.out | apply below_alloc | apply pw_below_drewN | apply below_drew1) | exact HB.out)⟩

end Go.Proofs.Ytkhfgflcanmefaa.PAll
end
section
namespace Go.Proofs.Ytkhfgflcanmefaa.PAll
open Go.RowKit Go.Proofs.YtkhfgflcanmefaaW.PrintWords Go.Proofs.YtkhfgflcanmefaaW.PrintLast Go.Proofs.YtkhfgflcanmefaaW.PrintMore
attribute [local go_sem] max2_int min2_int max_two min_two max_three min_three max_four min_four   -- for this text's walks alone
set_option linter.unusedVariables false
set_option linter.unusedSimpArgs false

def slices_Clip_int.f (l0 : List Int) : Option (List Int) := some l0
theorem slices_Clip_int.cut (A : Option Addr) (n c : Nat) (hm : n ≤ c) : ∀ W : World, (Instr.slice 24 (.slice A n c) none (some (.int .i64 (n : Int))) (some (.int .i64 (n : Int)))).run Try.prog W = .ok (.slice A n n) W := by
  intro W
  obtain ⟨i0, hi, _, hsz, _⟩ := info_parts info3
  have ha : (A.map fun x => x.add 0) = A := by cases A <;> simp [Addr.add]
  have hn : (n : Int) ≤ (c : Int) := by omega
  simp [Instr.slice, run_underlying Try.underlying24, Instr.sliceBounds, run_sliceBound, sizeOf, typeInfo, hi, Result.andThen, ha, hn]
set_option maxHeartbeats 8000000 in
set_option maxRecDepth 100000 in
theorem slices_Clip_int.calls (P0_ : Nat → Prop) (A0 : Option Addr) (c0 : Nat) (l0 : List Int) (r : List Int) (w : World) (hs0 : Kd.V (Kd.int .i64) 3 w w.heap.size (fun k_ => P0_ k_) (.slice A0 l0.length c0) l0) (h : slices_Clip_int.f l0 = some r) :
    Calls Try.prog 37 #[.slice A0 l0.length c0] w fun e w' => ∃ v0_ : Value, e = .returned (v0_) ∧ Kd.V (Kd.int .i64) 3 w' w.heap.size (fun k_ => (P0_ k_ ∨ w.heap.size ≤ k_)) v0_ r ∧ Below w.heap.size w w' := by
  obtain rfl := Option.some.inj h
  have HO0 := Aside0.mk (show Kd.V (Kd.int .i64) 3 w w.heap.size (fun k_ => (P0_ k_ ∨ w.heap.size ≤ k_)) (.slice A0 l0.length l0.length) l0 from Kd.V_mk (Nat.le_refl _) (Kd.F_mono (Kd.V_F hs0) (fun k_ hk => .inl hk)))
  have hc := (Kd.V_reads' hs0).2.1
  have hcut := slices_Clip_int.cut A0 l0.length c0 hc
  clear hs0 hc
  go_enter Try.func37, Try.ntmps37
  go_wp2
  go_ret
  exact ⟨_, rfl, HO0.out, Below.refl _ _⟩
end Go.Proofs.Ytkhfgflcanmefaa.PAll
end
section
set_option linter.unusedVariables false
set_option linter.unusedSimpArgs false
namespace Go.Proofs.Ytkhfgflcanmefaa.PAll
open Go.RowKit Go.Proofs.YtkhfgflcanmefaaW.PrintWords Go.Proofs.YtkhfgflcanmefaaW.PrintLast Go.Proofs.YtkhfgflcanmefaaW.PrintMore
attribute [local go_sem] max2_int min2_int max_two min_two max_three min_three max_four min_four
def OrdL.T1 : Bool × List (List Nat × List Nat) := (true, [([], []), ([], []), ([0, 1], [0, 1]), ([2], [2]), ([3], [3]), ([], []), ([], []), ([5, 6], [5, 6]), ([7], [7]), ([8], [8]), ([4, 9], [4, 9]), ([], []), ([], []), ([11, 12], [11, 12]), ([13], [13]), ([14], [14]), ([], []), ([], []), ([16, 17], [16, 17]), ([18], [18]), ([19], [19]), ([15, 20, 10], [15, 20]), ([10, 21], [10, 21]), ([22, 21], [22]), ([23, 23, 0, 1, 2, 3, 4, 5, 6, 7, 8, 9, 10, 11, 12, 13, 14, 15, 16, 17, 18, 19, 20, 21, 22, 23], [23])])
def OrdL.B1 : List Nat := [0, 0, 3, 7, 15, 0, 0, 96, 224, 480, 1023, 0, 0, 6144, 14336, 30720, 0, 0, 196608, 458752, 983040, 2097151, 4194303, 8388607, 16777215]
theorem OrdL.tab1 : rtab .any (opsOf Try.f34 1) = OrdL.T1 := by kernel_rfl
theorem OrdL.bits1 : waitsOk OrdL.T1.2 OrdL.B1 = true := by kernel_rfl

set_option maxHeartbeats 8000000 in
set_option maxRecDepth 100000 in
theorem order_lit.calls (k : Nat) (g : Nat) (A : Option Addr) (m c : Nat) (al : List S32) (a b c1 c2 r : Int) (w : World) (hg : w.cell? ⟨g, 0, none⟩ = some (.slice A m c)) (hC : Kd.C k32 w A m al) (a0 : 0 ≤ a) (a1 : a < (m : Int)) (b0 : 0 ≤ b) (b1 : b < (m : Int)) (h1 : cmp_Compare_int.f (rd_T32 al b).f5 (rd_T32 al a).f5 = some c1) (h2 : cmp_Compare_int.f (rd_T32 al a).f0 (rd_T32 al b).f0 = some c2) (h3 : cmp_Or_int.f k [c1, c2] = some r) :
    Calls Try.prog 34 #[.int .i64 a, .int .i64 b, .pointer (some ⟨g, 0, none⟩)] w fun e w' => e = .returned (.int .i64 r) ∧ Below w.heap.size w w' := by
  obtain ⟨ad, A11, c11, e1, p0, p1, p2, p3, p4, p5, p6, p7, p8, p9, p10, p11, p12, p13⟩ := at_T32 hC a a0 a1
  obtain ⟨bd, B11, d11, e2, q0, q1, q2, q3, q4, q5, q6, q7, q8, q9, q10, q11, q12, q13⟩ := at_T32 hC b b0 b1
  subst e1
  cases e2
  obtain ⟨pa, hpa⟩ : ∃ t, (rd_T32 al a).f5 = t := ⟨_, rfl⟩
  obtain ⟨pb, hpb⟩ : ∃ t, (rd_T32 al b).f5 = t := ⟨_, rfl⟩
  obtain ⟨ia, hia⟩ : ∃ t, (rd_T32 al a).f0 = t := ⟨_, rfl⟩
  obtain ⟨ib, hib⟩ : ∃ t, (rd_T32 al b).f0 = t := ⟨_, rfl⟩
  rw [hpa] at p5 h1
  rw [hpb] at q5 h1
  rw [hia] at p0 h2
  rw [hib] at q0 h2
  have HS : Aside0 (World.cell? w ⟨g, 0, none⟩ = some (.slice (some ad) m c) ∧ World.cell? w ⟨(ad.add (b.toNat * 12)).block, (ad.add (b.toNat * 12)).off + 5, none⟩ = some (.int .i64 pb) ∧ World.cell? w ⟨(ad.add (a.toNat * 12)).block, (ad.add (a.toNat * 12)).off + 5, none⟩ = some (.int .i64 pa) ∧ World.cell? w (ad.add (a.toNat * 12)) = some (.int .i64 ia) ∧ World.cell? w (ad.add (b.toNat * 12)) = some (.int .i64 ib)) := ⟨⟨hg, q5, p5, p0, q0⟩⟩
  clear p0 p1 p2 p3 p4 p5 p6 p7 p8 p9 p10 p11 p12 p13 q0 q1 q2 q3 q4 q5 q6 q7 q8 q9 q10 q11 q12 q13 hpa hpb hia hib hg hC
  replace a0 := eq_true a0
  replace a1 := eq_true a1
  replace b0 := eq_true b0
  replace b1 := eq_true b1
  have H1 := Aside0.mk h1
  have H2 := Aside0.mk h2
  have H3 := Aside0.mk h3
  have HB := Aside0.mk (Below.refl w.heap.size w)
  clear h1 h2 h3
  go_enter Try.func34, Try.ntmps34
  go_upto_region 1 with (fail)
  refine start_ (n := 25) (S := fun w' => World.cell? w' ⟨g, 0, none⟩ = some (.slice (some ad) m c) ∧ World.cell? w' ⟨(ad.add (b.toNat * 12)).block, (ad.add (b.toNat * 12)).off + 5, none⟩ = some (.int .i64 pb) ∧ World.cell? w' ⟨(ad.add (a.toNat * 12)).block, (ad.add (a.toNat * 12)).off + 5, none⟩ = some (.int .i64 pa) ∧ World.cell? w' (ad.add (a.toNat * 12)) = some (.int .i64 ia) ∧ World.cell? w' (ad.add (b.toNat * 12)) = some (.int .i64 ib)) (ds := []) #[false, false, false, false, false, false, false, false, false, false, false, false, false, false, false, false, false, false, false, false, false, false, false, false, false] (by kernel_rfl) rfl rfl HS.out (fun hHeld => ?_); refine with_tabW OrdL.tab1 OrdL.bits1 (fun HT_ HW_ => ?_)
  have n_ : Aside0 (World.cell? w.drew ⟨g, 0, none⟩ = some (.slice (some ad) m c) ∧ World.cell? w.drew ⟨(ad.add (b.toNat * 12)).block, (ad.add (b.toNat * 12)).off + 5, none⟩ = some (.int .i64 pb) ∧ World.cell? w.drew ⟨(ad.add (a.toNat * 12)).block, (ad.add (a.toNat * 12)).off + 5, none⟩ = some (.int .i64 pa) ∧ World.cell? w.drew (ad.add (a.toNat * 12)) = some (.int .i64 ia) ∧ World.cell? w.drew (ad.add (b.toNat * 12)) = some (.int .i64 ib)) := ⟨HS.out⟩
  have m_ := Aside0.mk (below_drew HB.out)
  clear HS HB
  have HS := n_
  have HB := m_
  clear n_ m_
  generalize World.drew _ = wz at HS HB hHeld ⊢
  refine take_ (i := 0) (N := some 6) (v := ?_) (a' := ?_) #[true, false, false, false, false, false, false, false, false, false, false, false, false, false, false, false, false, false, false, false, false, false, false, false, false] rfl rfl (take_ofW HT_.out HW_.out (by kernel_rfl)) (fun _ _ _ h => h) (Or.inl ⟨by rfl, ?_⟩) hHeld ?_ ?_
  rotate_left
  · rintro w' hs_
    obtain ⟨s0, s1, s2, s3, s4⟩ := hs_
    go_simp
    with_reducible rfl
  rotate_left
  · simp only [Act.put, List.setIfInBounds_toArray, List.set_cons_zero, List.set_cons_succ, i64_w, i32_w]
    rfl
  refine pure_ (i := 1) (N := some 7) (v := ?_) (a' := ?_) #[true, true, false, false, false, false, false, false, false, false, false, false, false, false, false, false, false, false, false, false, false, false, false, false, false] rfl rfl (any_of HT_.out (by kernel_rfl)) (fun _ _ _ h => h) (Or.inl ⟨by rfl, ?_⟩) ?_ ?_
  rotate_left
  · intro w'
    go_simp
    with_reducible rfl
  rotate_left
  · simp only [Act.put, List.setIfInBounds_toArray, List.set_cons_zero, List.set_cons_succ, i64_w, i32_w]
    rfl
  refine pure_ (i := 2) (N := some 8) (v := ?_) (a' := ?_) #[true, true, true, false, false, false, false, false, false, false, false, false, false, false, false, false, false, false, false, false, false, false, false, false, false] rfl rfl (any_of HT_.out (by kernel_rfl)) (fun _ _ _ h => h) (Or.inl ⟨by rfl, ?_⟩) ?_ ?_
  rotate_left
  · intro w'
    go_simp
    with_reducible rfl
  rotate_left
  · simp only [Act.put, List.setIfInBounds_toArray, List.set_cons_zero, List.set_cons_succ, i64_w, i32_w]
    rfl
  refine pure_ (i := 3) (N := some 9) (v := ?_) (a' := ?_) #[true, true, true, true, false, false, false, false, false, false, false, false, false, false, false, false, false, false, false, false, false, false, false, false, false] rfl rfl (any_of HT_.out (by kernel_rfl)) (fun _ _ _ h => h) (Or.inl ⟨by rfl, ?_⟩) ?_ ?_
  rotate_left
  · intro w'
    go_simp
    with_reducible rfl
  rotate_left
  · simp only [Act.put, List.setIfInBounds_toArray, List.set_cons_zero, List.set_cons_succ, i64_w, i32_w]
    rfl
  refine take_ (i := 4) (N := some 10) (v := ?_) (a' := ?_) #[true, true, true, true, true, false, false, false, false, false, false, false, false, false, false, false, false, false, false, false, false, false, false, false, false] rfl rfl (take_ofW HT_.out HW_.out (by kernel_rfl)) (fun _ _ _ h => h) (Or.inl ⟨by rfl, ?_⟩) hHeld ?_ ?_
  rotate_left
  · rintro w' hs_
    obtain ⟨s0, s1, s2, s3, s4⟩ := hs_
    go_simp
    with_reducible rfl
  rotate_left
  · simp only [Act.put, List.setIfInBounds_toArray, List.set_cons_zero, List.set_cons_succ, i64_w, i32_w]
    rfl
  refine take_ (i := 5) (N := some 11) (v := ?_) (a' := ?_) #[true, true, true, true, true, true, false, false, false, false, false, false, false, false, false, false, false, false, false, false, false, false, false, false, false] rfl rfl (take_ofW HT_.out HW_.out (by kernel_rfl)) (fun _ _ _ h => h) (Or.inl ⟨by rfl, ?_⟩) hHeld ?_ ?_
  rotate_left
  · rintro w' hs_
    obtain ⟨s0, s1, s2, s3, s4⟩ := hs_
    go_simp
    with_reducible rfl
  rotate_left
  · simp only [Act.put, List.setIfInBounds_toArray, List.set_cons_zero, List.set_cons_succ, i64_w, i32_w]
    rfl
  refine pure_ (i := 6) (N := some 12) (v := ?_) (a' := ?_) #[true, true, true, true, true, true, true, false, false, false, false, false, false, false, false, false, false, false, false, false, false, false, false, false, false] rfl rfl (any_of HT_.out (by kernel_rfl)) (fun _ _ _ h => h) (Or.inl ⟨by rfl, ?_⟩) ?_ ?_
  rotate_left
  · intro w'
    go_simp
    with_reducible rfl
  rotate_left
  · simp only [Act.put, List.setIfInBounds_toArray, List.set_cons_zero, List.set_cons_succ, i64_w, i32_w]
    rfl
  refine pure_ (i := 7) (N := some 13) (v := ?_) (a' := ?_) #[true, true, true, true, true, true, true, true, false, false, false, false, false, false, false, false, false, false, false, false, false, false, false, false, false] rfl rfl (any_of HT_.out (by kernel_rfl)) (fun _ _ _ h => h) (Or.inl ⟨by rfl, ?_⟩) ?_ ?_
  rotate_left
  · intro w'
    go_simp
    with_reducible rfl
  rotate_left
  · simp only [Act.put, List.setIfInBounds_toArray, List.set_cons_zero, List.set_cons_succ, i64_w, i32_w]
    rfl
  refine pure_ (i := 8) (N := some 14) (v := ?_) (a' := ?_) #[true, true, true, true, true, true, true, true, true, false, false, false, false, false, false, false, false, false, false, false, false, false, false, false, false] rfl rfl (any_of HT_.out (by kernel_rfl)) (fun _ _ _ h => h) (Or.inl ⟨by rfl, ?_⟩) ?_ ?_
  rotate_left
  · intro w'
    go_simp
    with_reducible rfl
  rotate_left
  · simp only [Act.put, List.setIfInBounds_toArray, List.set_cons_zero, List.set_cons_succ, i64_w, i32_w]
    rfl
  refine take_ (i := 9) (N := some 15) (v := ?_) (a' := ?_) #[true, true, true, true, true, true, true, true, true, true, false, false, false, false, false, false, false, false, false, false, false, false, false, false, false] rfl rfl (take_ofW HT_.out HW_.out (by kernel_rfl)) (fun _ _ _ h => h) (Or.inl ⟨by rfl, ?_⟩) hHeld ?_ ?_
  rotate_left
  · rintro w' hs_
    obtain ⟨s0, s1, s2, s3, s4⟩ := hs_
    go_simp
    with_reducible rfl
  rotate_left
  · simp only [Act.put, List.setIfInBounds_toArray, List.set_cons_zero, List.set_cons_succ, i64_w, i32_w]
    rfl
  refine take_ (i := 11) (N := some 17) (v := ?_) (a' := ?_) #[true, true, true, true, true, true, true, true, true, true, false, true, false, false, false, false, false, false, false, false, false, false, false, false, false] rfl rfl (take_ofW HT_.out HW_.out (by kernel_rfl)) (fun _ _ _ h => h) (Or.inl ⟨by rfl, ?_⟩) hHeld ?_ ?_
  rotate_left
  · rintro w' hs_
    obtain ⟨s0, s1, s2, s3, s4⟩ := hs_
    go_simp
    with_reducible rfl
  rotate_left
  · simp only [Act.put, List.setIfInBounds_toArray, List.set_cons_zero, List.set_cons_succ, i64_w, i32_w]
    rfl
  refine pure_ (i := 12) (N := some 18) (v := ?_) (a' := ?_) #[true, true, true, true, true, true, true, true, true, true, false, true, true, false, false, false, false, false, false, false, false, false, false, false, false] rfl rfl (any_of HT_.out (by kernel_rfl)) (fun _ _ _ h => h) (Or.inl ⟨by rfl, ?_⟩) ?_ ?_
  rotate_left
  · intro w'
    go_simp
    with_reducible rfl
  rotate_left
  · simp only [Act.put, List.setIfInBounds_toArray, List.set_cons_zero, List.set_cons_succ, i64_w, i32_w]
    rfl
  refine pure_ (i := 13) (N := some 19) (v := ?_) (a' := ?_) #[true, true, true, true, true, true, true, true, true, true, false, true, true, true, false, false, false, false, false, false, false, false, false, false, false] rfl rfl (any_of HT_.out (by kernel_rfl)) (fun _ _ _ h => h) (Or.inl ⟨by rfl, ?_⟩) ?_ ?_
  rotate_left
  · intro w'
    go_simp
    with_reducible rfl
  rotate_left
  · simp only [Act.put, List.setIfInBounds_toArray, List.set_cons_zero, List.set_cons_succ, i64_w, i32_w]
    rfl
  refine pure_ (i := 14) (N := some 20) (v := ?_) (a' := ?_) #[true, true, true, true, true, true, true, true, true, true, false, true, true, true, true, false, false, false, false, false, false, false, false, false, false] rfl rfl (any_of HT_.out (by kernel_rfl)) (fun _ _ _ h => h) (Or.inl ⟨by rfl, ?_⟩) ?_ ?_
  rotate_left
  · intro w'
    go_simp
    with_reducible rfl
  rotate_left
  · simp only [Act.put, List.setIfInBounds_toArray, List.set_cons_zero, List.set_cons_succ, i64_w, i32_w]
    rfl
  refine take_ (i := 15) (N := some 21) (v := ?_) (a' := ?_) #[true, true, true, true, true, true, true, true, true, true, false, true, true, true, true, true, false, false, false, false, false, false, false, false, false] rfl rfl (take_ofW HT_.out HW_.out (by kernel_rfl)) (fun _ _ _ h => h) (Or.inl ⟨by rfl, ?_⟩) hHeld ?_ ?_
  rotate_left
  · rintro w' hs_
    obtain ⟨s0, s1, s2, s3, s4⟩ := hs_
    go_simp
    with_reducible rfl
  rotate_left
  · simp only [Act.put, List.setIfInBounds_toArray, List.set_cons_zero, List.set_cons_succ, i64_w, i32_w]
    rfl
  refine take_ (i := 16) (N := some 22) (v := ?_) (a' := ?_) #[true, true, true, true, true, true, true, true, true, true, false, true, true, true, true, true, true, false, false, false, false, false, false, false, false] rfl rfl (take_ofW HT_.out HW_.out (by kernel_rfl)) (fun _ _ _ h => h) (Or.inl ⟨by rfl, ?_⟩) hHeld ?_ ?_
  rotate_left
  · rintro w' hs_
    obtain ⟨s0, s1, s2, s3, s4⟩ := hs_
    go_simp
    with_reducible rfl
  rotate_left
  · simp only [Act.put, List.setIfInBounds_toArray, List.set_cons_zero, List.set_cons_succ, i64_w, i32_w]
    rfl
  refine pure_ (i := 17) (N := some 23) (v := ?_) (a' := ?_) #[true, true, true, true, true, true, true, true, true, true, false, true, true, true, true, true, true, true, false, false, false, false, false, false, false] rfl rfl (any_of HT_.out (by kernel_rfl)) (fun _ _ _ h => h) (Or.inl ⟨by rfl, ?_⟩) ?_ ?_
  rotate_left
  · intro w'
    go_simp
    with_reducible rfl
  rotate_left
  · simp only [Act.put, List.setIfInBounds_toArray, List.set_cons_zero, List.set_cons_succ, i64_w, i32_w]
    rfl
  refine pure_ (i := 18) (N := some 24) (v := ?_) (a' := ?_) #[true, true, true, true, true, true, true, true, true, true, false, true, true, true, true, true, true, true, true, false, false, false, false, false, false] rfl rfl (any_of HT_.out (by kernel_rfl)) (fun _ _ _ h => h) (Or.inl ⟨by rfl, ?_⟩) ?_ ?_
  rotate_left
  · intro w'
    go_simp
    with_reducible rfl
  rotate_left
  · simp only [Act.put, List.setIfInBounds_toArray, List.set_cons_zero, List.set_cons_succ, i64_w, i32_w]
    rfl
  refine pure_ (i := 19) (N := some 25) (v := ?_) (a' := ?_) #[true, true, true, true, true, true, true, true, true, true, false, true, true, true, true, true, true, true, true, true, false, false, false, false, false] rfl rfl (any_of HT_.out (by kernel_rfl)) (fun _ _ _ h => h) (Or.inl ⟨by rfl, ?_⟩) ?_ ?_
  rotate_left
  · intro w'
    go_simp
    with_reducible rfl
  rotate_left
  · simp only [Act.put, List.setIfInBounds_toArray, List.set_cons_zero, List.set_cons_succ, i64_w, i32_w]
    rfl
  refine take_ (i := 20) (N := some 26) (v := ?_) (a' := ?_) #[true, true, true, true, true, true, true, true, true, true, false, true, true, true, true, true, true, true, true, true, true, false, false, false, false] rfl rfl (take_ofW HT_.out HW_.out (by kernel_rfl)) (fun _ _ _ h => h) (Or.inl ⟨by rfl, ?_⟩) hHeld ?_ ?_
  rotate_left
  · rintro w' hs_
    obtain ⟨s0, s1, s2, s3, s4⟩ := hs_
    go_simp
    with_reducible rfl
  rotate_left
  · simp only [Act.put, List.setIfInBounds_toArray, List.set_cons_zero, List.set_cons_succ, i64_w, i32_w]
    rfl
  refine one_ (i := 10) (N := some 16) #[true, true, true, true, true, true, true, true, true, true, true, true, true, true, true, true, true, true, true, true, true, false, false, false, false] rfl rfl (one_of HT_.out (by kernel_rfl)) (by decide) (fun K hK => ?_)
  refine goes_ Try.func36 (by kernel_rfl) rfl #[.int .i64 pb, .int .i64 pa] (by rfl) rfl rfl (by (try simp only [List.map_toArray, List.map_cons, List.map_nil]); first | done | rfl | (simp only [List.length_drop, List.length_take]; rfl)) ?_
  with_reducible refine (cmp_Compare_int.calls pb pa c1 wz H1.out).mono ?_
  rintro e w1 ⟨rfl, hd⟩; have n_ : Aside0 (World.cell? w1 ⟨g, 0, none⟩ = some (.slice (some ad) m c) ∧ World.cell? w1 ⟨(ad.add (b.toNat * 12)).block, (ad.add (b.toNat * 12)).off + 5, none⟩ = some (.int .i64 pb) ∧ World.cell? w1 ⟨(ad.add (a.toNat * 12)).block, (ad.add (a.toNat * 12)).off + 5, none⟩ = some (.int .i64 pa) ∧ World.cell? w1 (ad.add (a.toNat * 12)) = some (.int .i64 ia) ∧ World.cell? w1 (ad.add (b.toNat * 12)) = some (.int .i64 ib)) := ⟨by obtain ⟨nd, rfl⟩ := hd; exact HS.out⟩; have m_ : Aside0 (Below w.heap.size w w1) := ⟨by obtain ⟨nd, rfl⟩ := hd; exact pw_below_drewN HB.out nd⟩; clear HS HB hd; have HS := n_; have HB := m_; clear n_ m_
  refine ⟨_, rfl, ?_⟩
  refine hK.out _ _ HS.out (fun hHeld => ?_)
  clear hK K
  refine norm_ (a' := ?_) ?_ ?_
  rotate_left
  · show Act.put _ (some 16) _ = _
    simp only [Act.put, List.setIfInBounds_toArray, List.set_cons_zero, List.set_cons_succ, i64_w, i32_w]
    rfl
  refine one_ (i := 21) (N := some 27) #[true, true, true, true, true, true, true, true, true, true, true, true, true, true, true, true, true, true, true, true, true, true, false, false, false] rfl rfl (one_of HT_.out (by kernel_rfl)) (by decide) (fun K hK => ?_)
  refine goes_ Try.func36 (by kernel_rfl) rfl #[.int .i64 ia, .int .i64 ib] (by rfl) rfl rfl (by (try simp only [List.map_toArray, List.map_cons, List.map_nil]); first | done | rfl | (simp only [List.length_drop, List.length_take]; rfl)) ?_
  with_reducible refine (cmp_Compare_int.calls ia ib c2 w1 H2.out).mono ?_
  rintro e w1b ⟨rfl, hd⟩; have n_ : Aside0 (World.cell? w1b ⟨g, 0, none⟩ = some (.slice (some ad) m c) ∧ World.cell? w1b ⟨(ad.add (b.toNat * 12)).block, (ad.add (b.toNat * 12)).off + 5, none⟩ = some (.int .i64 pb) ∧ World.cell? w1b ⟨(ad.add (a.toNat * 12)).block, (ad.add (a.toNat * 12)).off + 5, none⟩ = some (.int .i64 pa) ∧ World.cell? w1b (ad.add (a.toNat * 12)) = some (.int .i64 ia) ∧ World.cell? w1b (ad.add (b.toNat * 12)) = some (.int .i64 ib)) := ⟨by obtain ⟨nd, rfl⟩ := hd; exact HS.out⟩; have m_ : Aside0 (Below w.heap.size w w1b) := ⟨by obtain ⟨nd, rfl⟩ := hd; exact pw_below_drewN HB.out nd⟩; clear HS HB hd; have HS := n_; have HB := m_; clear n_ m_
  refine ⟨_, rfl, ?_⟩
  refine hK.out _ _ HS.out (fun hHeld => ?_)
  clear hK K
  refine norm_ (a' := ?_) ?_ ?_
  rotate_left
  · show Act.put _ (some 27) _ = _
    simp only [Act.put, List.setIfInBounds_toArray, List.set_cons_zero, List.set_cons_succ, i64_w, i32_w]
    rfl
  refine one_ (i := 22) (N := some 28) #[true, true, true, true, true, true, true, true, true, true, true, true, true, true, true, true, true, true, true, true, true, true, true, false, false] rfl rfl (one_of HT_.out (by kernel_rfl)) (by decide) (fun K hK => ?_)
  refine Kd.R_lit_step (Kd.int .i64) _ 3 ?hg (N := 28) ?hd (xs := ([c1, c2] : List Int)) (inner := [.int .i64 c1, .int .i64 c2]) (ok := fun _ => True) (okp := fun _ => True) ?hr ?hp (fun _ hk => hk) trivial (Below.refl _ _) (Nat.le_refl _) (by simp) ?_; (case hd => rfl); (case hg => rfl); (case hr => first | (go_simp; done) | (go_simp; rfl)); (case hp => exact (Reps.snoc (p := c2) (c := [.int .i64 c2]) (Reps.snoc (p := c1) (c := [.int .i64 c1]) (Reps.none _ _) rfl rfl) rfl rfl))
  intro v2 w2 ho2 hb2 hg_ hnew_
  clear hg_ hnew_
  have n_ : Aside0 (World.cell? w2 ⟨g, 0, none⟩ = some (.slice (some ad) m c) ∧ World.cell? w2 ⟨(ad.add (b.toNat * 12)).block, (ad.add (b.toNat * 12)).off + 5, none⟩ = some (.int .i64 pb) ∧ World.cell? w2 ⟨(ad.add (a.toNat * 12)).block, (ad.add (a.toNat * 12)).off + 5, none⟩ = some (.int .i64 pa) ∧ World.cell? w2 (ad.add (a.toNat * 12)) = some (.int .i64 ia) ∧ World.cell? w2 (ad.add (b.toNat * 12)) = some (.int .i64 ib)) := ⟨by have h_ := HS.out; exact ⟨(hb2.cell (World.block_lt_of_cell? _ _ h_.1)).trans h_.1, (hb2.cell (World.block_lt_of_cell? _ _ h_.2.1)).trans h_.2.1, (hb2.cell (World.block_lt_of_cell? _ _ h_.2.2.1)).trans h_.2.2.1, (hb2.cell (World.block_lt_of_cell? _ _ h_.2.2.2.1)).trans h_.2.2.2.1, (hb2.cell (World.block_lt_of_cell? _ _ h_.2.2.2.2)).trans h_.2.2.2.2⟩⟩
  have m_ := Aside0.mk (below_step HB.out hb2)
  clear HS HB
  have HS := n_
  have HB := m_
  clear n_ m_
  obtain ⟨A2, cc2, e2, hc2, hC2⟩ := Kd.R_reads ho2
  subst e2
  have HC2 := Aside0.mk hC2
  have HCC := Aside0.mk hc2
  clear hb2 ho2 hC2 hc2
  refine hK.out _ _ HS.out (fun hHeld => ?_)
  clear hK K
  refine norm_ (a' := ?_) ?_ ?_
  rotate_left
  · show Act.put _ (some 28) _ = _
    simp only [Act.put, List.setIfInBounds_toArray, List.set_cons_zero, List.set_cons_succ, i64_w, i32_w]
    rfl
  refine one_ (i := 23) (N := some 29) #[true, true, true, true, true, true, true, true, true, true, true, true, true, true, true, true, true, true, true, true, true, true, true, true, false] rfl rfl (one_of HT_.out (by kernel_rfl)) (by decide) (fun K hK => ?_)
  refine goes_ Try.func35 (by kernel_rfl) rfl #[.slice A2 ([c1, c2] : List Int).length cc2] (by rfl) rfl rfl (by (try simp only [List.map_toArray, List.map_cons, List.map_nil]); first | done | rfl | (simp only [List.length_drop, List.length_take]; rfl)) ?_
  with_reducible refine (cmp_Or_int.calls k A2 cc2 [c1, c2] r w2 HC2.out HCC.out H3.out).mono ?_
  rintro e w3 ⟨rfl, hd⟩; have n_ : Aside0 (World.cell? w3 ⟨g, 0, none⟩ = some (.slice (some ad) m c) ∧ World.cell? w3 ⟨(ad.add (b.toNat * 12)).block, (ad.add (b.toNat * 12)).off + 5, none⟩ = some (.int .i64 pb) ∧ World.cell? w3 ⟨(ad.add (a.toNat * 12)).block, (ad.add (a.toNat * 12)).off + 5, none⟩ = some (.int .i64 pa) ∧ World.cell? w3 (ad.add (a.toNat * 12)) = some (.int .i64 ia) ∧ World.cell? w3 (ad.add (b.toNat * 12)) = some (.int .i64 ib)) := ⟨by obtain ⟨nd, rfl⟩ := hd; exact HS.out⟩; have m_ : Aside0 (Below w.heap.size w w3) := ⟨by obtain ⟨nd, rfl⟩ := hd; exact pw_below_drewN HB.out nd⟩; clear HS HB hd; have HS := n_; have HB := m_; clear n_ m_
  refine ⟨_, rfl, ?_⟩
  refine hK.out _ _ HS.out (fun hHeld => ?_)
  clear hK K
  refine norm_ (a' := ?_) ?_ ?_
  rotate_left
  · show Act.put _ (some 29) _ = _
    simp only [Act.put, List.setIfInBounds_toArray, List.set_cons_zero, List.set_cons_succ, i64_w, i32_w]
    rfl
  refine pure_ (i := 24) (N := some 5) (v := ?_) (a' := ?_) #[true, true, true, true, true, true, true, true, true, true, true, true, true, true, true, true, true, true, true, true, true, true, true, true, true] rfl rfl (any_of HT_.out (by kernel_rfl)) (fun _ _ _ h => h) (Or.inl ⟨by rfl, ?_⟩) ?_ ?_
  rotate_left
  · intro w'
    go_simp
    with_reducible rfl
  rotate_left
  · simp only [Act.put, List.setIfInBounds_toArray, List.set_cons_zero, List.set_cons_succ, i64_w, i32_w]
    rfl
  refine done_ (done_of HT_.out (by kernel_rfl)) ?_

  try go_wp2
  go_ret
  exact ⟨rfl, HB.out⟩
theorem goesVC_ {P : Program} {ops : Array Oper} {Q : Exit → Act → World → Prop} {oi : Oper} {N : Option Tmp} {a : Act} {w : World} {K : Act → World → Prop} {f : FuncId} {fn : Func} {c : Operand} {as_ : Array Operand} {ts : Array TypeId} (hf : P.funcs[f]? = some fn) (hname : (fn.name == "runtime.NumGoroutine") = false) (hb : fn.body.isSome = true) (args caps full : Array Value) (hfull : args ++ caps = full)
    (hw : Region.wanted oi (yielded ops a.tmps) = true) (hN : oi.dst = N) (hop : oi.op = .call { callee := .value c, args := as_, argTypes := ts }) (hargs : as_.map a.eval = args)
    (hc : a.eval c = .func (.func f) #[] caps)
    (h : Calls P f full w fun e w' => ∃ v, e = .returned v ∧ K (a.put N v) w') : if Region.wanted oi (yielded ops a.tmps) = true then Oper.wp P oi a w K Q else K (a.put N undef) w := by
  subst hfull
  refine call_ f (args ++ caps) hw hN ?_ h
  have he := enters_ hf hname hb (args ++ caps) w
  unfold execOp
  simp [hop, resolve, Deferred.ofValue, invoke, hc, hargs, he]
class Cap where
  al : List S32
  out : Int → Int → Option Int
structure CapAt [Cap] (g : Nat) (A : Option Addr) (c : Nat) (w : World) : Prop where
  hg : w.cell? ⟨g, 0, none⟩ = some (.slice A Cap.al.length c)
  hC : Kd.C k32 w A Cap.al.length Cap.al
  ho : ∀ a b, Cap.out a b = none
theorem CapAt.of [Cap] {g : Nat} {A : Option Addr} {c : Nat} {w0 w : World} (h : CapAt g A c w0) (hb : Below w0.heap.size w0 w) : CapAt g A c w := ⟨(hb.cell (World.block_lt_of_cell? _ _ h.hg)).trans h.hg, Kd.C_below h.hC hb, h.ho⟩
def order_Order_1.f [Cap] (a b : Int) : Option Int := if (0 ≤ a ∧ a < (Cap.al.length : Int)) ∧ 0 ≤ b ∧ b < (Cap.al.length : Int) then (cmp_Compare_int.f (rd_T32 Cap.al b).f5 (rd_T32 Cap.al a).f5).bind fun c1 => (cmp_Compare_int.f (rd_T32 Cap.al a).f0 (rd_T32 Cap.al b).f0).bind fun c2 => cmp_Or_int.f 10 [c1, c2] else Cap.out a b
theorem order_Order_1.calls [Cap] (a b r : Int) {g_ : Nat} {A_ : Option Addr} {c_ : Nat} (w : World) (hc : CapAt g_ A_ c_ w) (h : order_Order_1.f a b = some r) :
    Calls Try.prog 34 #[.int .i64 a, .int .i64 b, .pointer (some ⟨g_, 0, none⟩)] w fun e w' => e = .returned (.int .i64 r) ∧ Below w.heap.size w w' := by
  unfold order_Order_1.f at h
  by_cases c : (0 ≤ a ∧ a < (Cap.al.length : Int)) ∧ 0 ≤ b ∧ b < (Cap.al.length : Int)
  · rw [if_pos c] at h
    obtain ⟨c1, h1, h⟩ := Option.bind_eq_some_iff.mp h
    obtain ⟨c2, h2, h⟩ := Option.bind_eq_some_iff.mp h
    exact order_lit.calls 10 g_ A_ Cap.al.length c_ Cap.al a b c1 c2 r w hc.hg hc.hC c.1.1 c.1.2 c.2.1 c.2.2 h1 h2 h
  · rw [if_neg c, hc.ho] at h; simp at h
end Go.Proofs.Ytkhfgflcanmefaa.PAll
end
