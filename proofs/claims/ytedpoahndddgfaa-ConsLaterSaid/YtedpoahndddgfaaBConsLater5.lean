/- Words, plain functions and contracts of the functions that the law of this claim reaches; no conditions. -/
import Derived.Test.YtedpoahndddgfaaBConsLater4
section
namespace Go.Proofs.Ytedpoahndddgfaa.PAll
open Go.RowKit Go.Proofs.YtedpoahndddgfaaW.PrintWords Go.Proofs.YtedpoahndddgfaaW.PrintLast Go.Proofs.YtedpoahndddgfaaW.PrintMore
attribute [local go_sem] max2_int min2_int max_two min_two max_three min_three max_four min_four   -- for this text's walks alone
set_option linter.unusedVariables false
set_option linter.unusedSimpArgs false

/-! ### prebendlaw18_ConsLater: function 12 -/
def prebendlaw18_ConsLater.f (k : Nat) (a0 : Int) (l1 : List (S38)) (l2 : List (S52)) (a3_0 : Int) (a3_1 : Int) : Option (Bool) := (prebendref17_Busy.f k l1).bind fun t778 => ((prebendref18_Asks.f k l2).bind fun t781 => ((cons_Plan.f k 0 (wrap64 (Int.tmod a0 40)) t778 t781 ([] : List Bool)).bind fun t784 => ((some (([] : List (S52)) : List (S52))).bind fun y787 => (if y787.length + t781.length < 8796093022208 then ((some (y787 ++ t781 : List (S52))).bind fun y790 => ((prebendref18_Asks.f k (([(⟨a3_0, a3_1⟩ : S52)] : List (S52)))).bind fun t796 => (if y790.length + t796.length < 8796093022208 then ((cons_Plan.f k 0 (wrap64 (Int.tmod a0 40)) t778 (y790 ++ t796) ([] : List Bool)).bind fun t802 => ((prebendlaw18_awake.f k).bind fun t805 => (if t805 = true then (if (t802.length : Int) = (wrap64 ((t781.length : Int) + 1)) then (if 0 ≤ (t781.length : Int) then (if (t781.length : Int) ≤ (t802.length : Int) then ((prebendref01_Ints.f k (t802.take ((t781.length : Int) : Int).toNat) t784).bind fun t811 => (some t811)) else (none)) else (none)) else (some false)) else (some false)))) else (none)))) else (none)))))
theorem prebendlaw18_ConsLater.mono : ∀ a0 a1 a2 a3 a4 k, LeO (prebendlaw18_ConsLater.f k a0 a1 a2 a3 a4) (prebendlaw18_ConsLater.f (k + 1) a0 a1 a2 a3 a4) := by
 intro a0 a1 a2 a3 a4 k
 unfold prebendlaw18_ConsLater.f
 repeat' first
   | (with_reducible exact cons_Plan.mono _ _ _ _ _ _)
   | (with_reducible exact prebendlaw18_awake.mono _)
   | (with_reducible exact prebendref01_Ints.mono _ _ _)
   | (with_reducible exact prebendref17_Busy.mono _ _)
   | (with_reducible exact prebendref18_Asks.mono _ _)
   | (with_reducible exact LeO.refl _)
   | (with_reducible exact LeO.none _)
   | (with_reducible refine LeO.ite ?_ ?_)
   | (with_reducible refine LeO.bind ?_ (fun _ => ?_))
   | exact cons_Plan.mono _ _ _ _ _ _
   | exact prebendlaw18_awake.mono _
   | exact prebendref01_Ints.mono _ _ _
   | exact prebendref17_Busy.mono _ _
   | exact prebendref18_Asks.mono _ _
   | exact LeO.none _
   | refine LeO.ite ?_ ?_
   | refine LeO.bind ?_ (fun _ => ?_)
def prebendlaw18_ConsLater.T4 : Bool × List (List Nat × List Nat) := (true, [([], []), ([], []), ([], []), ([], []), ([2, 3], [2, 3]), ([], []), ([5], [5]), ([6, 4], [6]), ([4, 7, 7], [4, 7]), ([0, 1, 8, 8], [0, 1, 8]), ([9, 9, 0, 1, 2, 3, 4, 5, 6, 7, 8, 9], [9])])
def prebendlaw18_ConsLater.B4 : List Nat := [0, 0, 0, 0, 12, 0, 32, 124, 252, 511, 1023]
theorem prebendlaw18_ConsLater.tab4 : rtab .any (opsOf Try.f12 4) = prebendlaw18_ConsLater.T4 := by kernel_rfl
theorem prebendlaw18_ConsLater.bits4 : waitsOk prebendlaw18_ConsLater.T4.2 prebendlaw18_ConsLater.B4 = true := by kernel_rfl
set_option maxHeartbeats 8000000 in
set_option maxRecDepth 100000 in
theorem prebendlaw18_ConsLater.calls (k : Nat) (a0 : Int) (A1 : Option Addr) (c1 : Nat) (l1 : List (S38)) (A2 : Option Addr) (c2 : Nat) (l2 : List (S52)) (a3_0 : Int) (a3_1 : Int) (r : Bool) (w : World) (hr1 : Kd.C k38 w A1 l1.length l1) (hc1 : l1.length ≤ c1) (hr2 : Kd.C k52 w A2 l2.length l2) (hc2 : l2.length ≤ c2) (h : prebendlaw18_ConsLater.f k a0 l1 l2 a3_0 a3_1 = some r) :
  Calls Try.prog 12 #[.int .u8 a0, .slice A1 l1.length c1, .slice A2 l2.length c2, .agg #[.int .i64 a3_0, .int .i64 a3_1]] w fun e w' => e = .returned (.bool r) ∧ Below w.heap.size w w' := by
 have hu52 := Try.underlying52
 have HR1 := Aside0.mk hr1
 have HC1 := Aside0.mk hc1
 clear hr1; clear hc1
 have HR2 := Aside0.mk hr2
 have HC2 := Aside0.mk hc2
 clear hr2; clear hc2
 have HB := Aside0.mk (Below.refl w.heap.size w)
 have H : ((prebendref17_Busy.f k l1).bind fun t778 => ((prebendref18_Asks.f k l2).bind fun t781 => ((cons_Plan.f k 0 (wrap64 (Int.tmod a0 40)) t778 t781 ([] : List Bool)).bind fun t784 => ((some (([] : List (S52)) : List (S52))).bind fun y787 => (if y787.length + t781.length < 8796093022208 then ((some (y787 ++ t781 : List (S52))).bind fun y790 => ((prebendref18_Asks.f k (([(⟨a3_0, a3_1⟩ : S52)] : List (S52)))).bind fun t796 => (if y790.length + t796.length < 8796093022208 then ((cons_Plan.f k 0 (wrap64 (Int.tmod a0 40)) t778 (y790 ++ t796) ([] : List Bool)).bind fun t802 => ((prebendlaw18_awake.f k).bind fun t805 => (if t805 = true then (if (t802.length : Int) = (wrap64 ((t781.length : Int) + 1)) then (if 0 ≤ (t781.length : Int) then (if (t781.length : Int) ≤ (t802.length : Int) then ((prebendref01_Ints.f k (t802.take ((t781.length : Int) : Int).toNat) t784).bind fun t811 => (some t811)) else (none)) else (none)) else (some false)) else (some false)))) else (none)))) else (none)))))) = some r := h
 clear h
 replace H := Option.bind_eq_some_iff.mp H
 obtain ⟨t778, A50, H⟩ := H
 replace H : ((prebendref18_Asks.f k l2).bind fun t781 => ((cons_Plan.f k 0 (wrap64 (Int.tmod a0 40)) t778 t781 ([] : List Bool)).bind fun t784 => ((some (([] : List (S52)) : List (S52))).bind fun y787 => (if y787.length + t781.length < 8796093022208 then ((some (y787 ++ t781 : List (S52))).bind fun y790 => ((prebendref18_Asks.f k (([(⟨a3_0, a3_1⟩ : S52)] : List (S52)))).bind fun t796 => (if y790.length + t796.length < 8796093022208 then ((cons_Plan.f k 0 (wrap64 (Int.tmod a0 40)) t778 (y790 ++ t796) ([] : List Bool)).bind fun t802 => ((prebendlaw18_awake.f k).bind fun t805 => (if t805 = true then (if (t802.length : Int) = (wrap64 ((t781.length : Int) + 1)) then (if 0 ≤ (t781.length : Int) then (if (t781.length : Int) ≤ (t802.length : Int) then ((prebendref01_Ints.f k (t802.take ((t781.length : Int) : Int).toNat) t784).bind fun t811 => (some t811)) else (none)) else (none)) else (some false)) else (some false)))) else (none)))) else (none))))) = some r := H
 have A5 := Aside0.mk A50
 clear A50
 replace H := Option.bind_eq_some_iff.mp H
 obtain ⟨t781, A60, H⟩ := H
 replace H : ((cons_Plan.f k 0 (wrap64 (Int.tmod a0 40)) t778 t781 ([] : List Bool)).bind fun t784 => ((some (([] : List (S52)) : List (S52))).bind fun y787 => (if y787.length + t781.length < 8796093022208 then ((some (y787 ++ t781 : List (S52))).bind fun y790 => ((prebendref18_Asks.f k (([(⟨a3_0, a3_1⟩ : S52)] : List (S52)))).bind fun t796 => (if y790.length + t796.length < 8796093022208 then ((cons_Plan.f k 0 (wrap64 (Int.tmod a0 40)) t778 (y790 ++ t796) ([] : List Bool)).bind fun t802 => ((prebendlaw18_awake.f k).bind fun t805 => (if t805 = true then (if (t802.length : Int) = (wrap64 ((t781.length : Int) + 1)) then (if 0 ≤ (t781.length : Int) then (if (t781.length : Int) ≤ (t802.length : Int) then ((prebendref01_Ints.f k (t802.take ((t781.length : Int) : Int).toNat) t784).bind fun t811 => (some t811)) else (none)) else (none)) else (some false)) else (some false)))) else (none)))) else (none)))) = some r := H
 have A6 := Aside0.mk A60
 clear A60
 replace H := Option.bind_eq_some_iff.mp H
 obtain ⟨t784, A70, H⟩ := H
 replace H : ((some (([] : List (S52)) : List (S52))).bind fun y787 => (if y787.length + t781.length < 8796093022208 then ((some (y787 ++ t781 : List (S52))).bind fun y790 => ((prebendref18_Asks.f k (([(⟨a3_0, a3_1⟩ : S52)] : List (S52)))).bind fun t796 => (if y790.length + t796.length < 8796093022208 then ((cons_Plan.f k 0 (wrap64 (Int.tmod a0 40)) t778 (y790 ++ t796) ([] : List Bool)).bind fun t802 => ((prebendlaw18_awake.f k).bind fun t805 => (if t805 = true then (if (t802.length : Int) = (wrap64 ((t781.length : Int) + 1)) then (if 0 ≤ (t781.length : Int) then (if (t781.length : Int) ≤ (t802.length : Int) then ((prebendref01_Ints.f k (t802.take ((t781.length : Int) : Int).toNat) t784).bind fun t811 => (some t811)) else (none)) else (none)) else (some false)) else (some false)))) else (none)))) else (none))) = some r := H
 have A7 := Aside0.mk A70
 clear A70
 obtain ⟨y787, hy787⟩ : ∃ y_ : List (S52), y_ = (([] : List (S52))) := ⟨_, rfl⟩
 replace H : (if y787.length + t781.length < 8796093022208 then ((some (y787 ++ t781 : List (S52))).bind fun y790 => ((prebendref18_Asks.f k (([(⟨a3_0, a3_1⟩ : S52)] : List (S52)))).bind fun t796 => (if y790.length + t796.length < 8796093022208 then ((cons_Plan.f k 0 (wrap64 (Int.tmod a0 40)) t778 (y790 ++ t796) ([] : List Bool)).bind fun t802 => ((prebendlaw18_awake.f k).bind fun t805 => (if t805 = true then (if (t802.length : Int) = (wrap64 ((t781.length : Int) + 1)) then (if 0 ≤ (t781.length : Int) then (if (t781.length : Int) ≤ (t802.length : Int) then ((prebendref01_Ints.f k (t802.take ((t781.length : Int) : Int).toNat) t784).bind fun t811 => (some t811)) else (none)) else (none)) else (some false)) else (some false)))) else (none)))) else (none)) = some r := mH hy787 H
 have Ny787 := Aside0.mk hy787
 clear hy787
 by_cases c8 : y787.length + t781.length < 8796093022208
 ·rw [if_pos c8] at H
  have LMc8 := Aside0.mk c8
  clear c8
  obtain ⟨y790, hy790⟩ : ∃ y_ : List (S52), y_ = (y787 ++ t781) := ⟨_, rfl⟩
  replace H : ((prebendref18_Asks.f k (([(⟨a3_0, a3_1⟩ : S52)] : List (S52)))).bind fun t796 => (if y790.length + t796.length < 8796093022208 then ((cons_Plan.f k 0 (wrap64 (Int.tmod a0 40)) t778 (y790 ++ t796) ([] : List Bool)).bind fun t802 => ((prebendlaw18_awake.f k).bind fun t805 => (if t805 = true then (if (t802.length : Int) = (wrap64 ((t781.length : Int) + 1)) then (if 0 ≤ (t781.length : Int) then (if (t781.length : Int) ≤ (t802.length : Int) then ((prebendref01_Ints.f k (t802.take ((t781.length : Int) : Int).toNat) t784).bind fun t811 => (some t811)) else (none)) else (none)) else (some false)) else (some false)))) else (none))) = some r := mH hy790 H
  have Ny790 := Aside0.mk hy790
  clear hy790
  obtain ⟨y793, hy793⟩ : ∃ y_ : List (S52), y_ = (([(⟨a3_0, a3_1⟩ : S52)] : List (S52))) := ⟨_, rfl⟩
  replace H : ((prebendref18_Asks.f k y793).bind fun t796 => (if y790.length + t796.length < 8796093022208 then ((cons_Plan.f k 0 (wrap64 (Int.tmod a0 40)) t778 (y790 ++ t796) ([] : List Bool)).bind fun t802 => ((prebendlaw18_awake.f k).bind fun t805 => (if t805 = true then (if (t802.length : Int) = (wrap64 ((t781.length : Int) + 1)) then (if 0 ≤ (t781.length : Int) then (if (t781.length : Int) ≤ (t802.length : Int) then ((prebendref01_Ints.f k (t802.take ((t781.length : Int) : Int).toNat) t784).bind fun t811 => (some t811)) else (none)) else (none)) else (some false)) else (some false)))) else (none))) = some r := mH hy793 H
  have Ny793 := Aside0.mk hy793
  clear hy793
  replace H := Option.bind_eq_some_iff.mp H
  obtain ⟨t796, A90, H⟩ := H
  replace H : (if y790.length + t796.length < 8796093022208 then ((cons_Plan.f k 0 (wrap64 (Int.tmod a0 40)) t778 (y790 ++ t796) ([] : List Bool)).bind fun t802 => ((prebendlaw18_awake.f k).bind fun t805 => (if t805 = true then (if (t802.length : Int) = (wrap64 ((t781.length : Int) + 1)) then (if 0 ≤ (t781.length : Int) then (if (t781.length : Int) ≤ (t802.length : Int) then ((prebendref01_Ints.f k (t802.take ((t781.length : Int) : Int).toNat) t784).bind fun t811 => (some t811)) else (none)) else (none)) else (some false)) else (some false)))) else (none)) = some r := H
  have A9 := Aside0.mk A90
  clear A90
  by_cases c10 : y790.length + t796.length < 8796093022208
  ·rw [if_pos c10] at H
   have LMc10 := Aside0.mk c10
   clear c10
   obtain ⟨y799, hy799⟩ : ∃ y_ : List (S52), y_ = (y790 ++ t796) := ⟨_, rfl⟩
   replace H : ((cons_Plan.f k 0 (wrap64 (Int.tmod a0 40)) t778 y799 ([] : List Bool)).bind fun t802 => ((prebendlaw18_awake.f k).bind fun t805 => (if t805 = true then (if (t802.length : Int) = (wrap64 ((t781.length : Int) + 1)) then (if 0 ≤ (t781.length : Int) then (if (t781.length : Int) ≤ (t802.length : Int) then ((prebendref01_Ints.f k (t802.take ((t781.length : Int) : Int).toNat) t784).bind fun t811 => (some t811)) else (none)) else (none)) else (some false)) else (some false)))) = some r := mH hy799 H
   have Ny799 := Aside0.mk hy799
   clear hy799
   replace H := Option.bind_eq_some_iff.mp H
   obtain ⟨t802, A110, H⟩ := H
   replace H : ((prebendlaw18_awake.f k).bind fun t805 => (if t805 = true then (if (t802.length : Int) = (wrap64 ((t781.length : Int) + 1)) then (if 0 ≤ (t781.length : Int) then (if (t781.length : Int) ≤ (t802.length : Int) then ((prebendref01_Ints.f k (t802.take ((t781.length : Int) : Int).toNat) t784).bind fun t811 => (some t811)) else (none)) else (none)) else (some false)) else (some false))) = some r := H
   have A11 := Aside0.mk A110
   clear A110
   replace H := Option.bind_eq_some_iff.mp H
   obtain ⟨t805, A120, H⟩ := H
   replace H : (if t805 = true then (if (t802.length : Int) = (wrap64 ((t781.length : Int) + 1)) then (if 0 ≤ (t781.length : Int) then (if (t781.length : Int) ≤ (t802.length : Int) then ((prebendref01_Ints.f k (t802.take ((t781.length : Int) : Int).toNat) t784).bind fun t811 => (some t811)) else (none)) else (none)) else (some false)) else (some false)) = some r := H
   have A12 := Aside0.mk A120
   clear A120
   by_cases c13 : t805 = true
   ·subst c13
    have H1 : (if (t802.length : Int) = (wrap64 ((t781.length : Int) + 1)) then (if 0 ≤ (t781.length : Int) then (if (t781.length : Int) ≤ (t802.length : Int) then ((prebendref01_Ints.f k (t802.take ((t781.length : Int) : Int).toNat) t784).bind fun t811 => (some t811)) else (none)) else (none)) else (some false)) = some r := by rw [if_pos rfl] at H; exact H
    clear H
    have H := H1
    clear H1
    by_cases c14 : (t802.length : Int) = (wrap64 ((t781.length : Int) + 1))
    ·rw [if_pos c14] at H
     have c14b0 : ((t802.length : Int) == (wrap64 ((t781.length : Int) + 1))) = true := beq_iff_eq.mpr c14
     have c14b1 : ((t802.length : Int) != (wrap64 ((t781.length : Int) + 1))) = false := bne_eq_false_iff_eq.mpr c14
     clear c14
     by_cases c15 : 0 ≤ (t781.length : Int)
     ·rw [if_pos c15] at H
      have c15b0 := eq_true c15
      have c15b1 : decide (0 ≤ (t781.length : Int)) = true := decide_eq_true c15
      clear c15
      by_cases c16 : (t781.length : Int) ≤ (t802.length : Int)
      ·rw [if_pos c16] at H
       have c16b0 := eq_true c16
       have c16b1 : decide ((t781.length : Int) ≤ (t802.length : Int)) = true := decide_eq_true c16
       clear c16
       obtain ⟨y806, hy806⟩ : ∃ y_ : List Int, y_ = (t802.take ((t781.length : Int) : Int).toNat) := ⟨_, rfl⟩
       replace H : ((prebendref01_Ints.f k y806 t784).bind fun t811 => (some t811)) = some r := mH hy806 H
       have Ny806 := Aside0.mk hy806
       clear hy806
       replace H := Option.bind_eq_some_iff.mp H
       obtain ⟨t811, A170, H⟩ := H
       replace H : (some t811) = some r := H
       have A17 := Aside0.mk A170
       clear A170
       obtain rfl := Option.some.inj H
       go_enter Try.func12, Try.ntmps12
       try go_wp2_with (first | ((with_reducible refine gate_dst (N := 7) rfl ?_); (try (refine gate_guard (by rfl) ?_; dsimp only)); refine box_event ?hg (N := 7) ?hd (cs := #[.int .i64 a3_0, .int .i64 a3_1]) (t := 52) ?hr ?_; (case hd => rfl); (case hg => rfl); (case hr => first | (go_simp; done) | (go_simp; rfl)); intro gb777 hg w18 hbox hb; have n0_ := Aside0.mk (below_step (mB HB.out) hb); have n1_ := Aside0.mk (hbox); have n2_ := Aside0.mk ((by rw [hg]; exact (below_size (mB HB.out)) : w.heap.size ≤ gb777)); have n3_ := Aside0.mk ((by rw [hg]; exact (below_size (mB HB.out)) : w.heap.size ≤ gb777)); clear HB; have HB := n0_; have BK777 := n1_; have GW777 := n2_; have GE777 := n3_; clear n0_ n1_ n2_ n3_; clear hb hbox hg) | ((with_reducible refine gate_callee (f := 25) rfl ?_); refine goesL_ (some 18) rfl rfl Try.func25 (by kernel_rfl) rfl #[.slice A1 l1.length c1] rfl mt ?_; (with_reducible refine (prebendref17_Busy.calls k _ _ l1 t778 _ ?side1 ?side2 A5.out).mono ?_); (case side1 => repeat (first | exact (Kd.C_below HR1.out HB.out) | (with_reducible refine Kd.C_alloc ?_ _) | (with_reducible refine Kd.C_drewN ?_ _) | (with_reducible refine Kd.C_drew ?_))); (case side2 => exact HC1.out); rintro e w19 ⟨v779, rfl, ho0, hb⟩; refine ⟨_, rfl, ?_⟩; have n0_ := Aside0.mk (Kd.R_lower ho0 (below_size (mBs HB.out))); have n1_ := Aside0.mk (blk_below (g := gb777) (o := .cells #[.int .i64 a3_0, .int .i64 a3_1] 52 (0, 0)) (mBK BK777.out) hb); have n2_ := Aside0.mk (below_step (mBs HB.out) hb); clear BK777; clear HB; have HO780 := n0_; have BK777 := n1_; have HB := n2_; clear n0_ n1_ n2_; (try clear hb); (try clear hb2); (try clear hk); (try clear hi); (try clear ho0)) | ((with_reducible refine gate_callee (f := 32) rfl ?_); refine goesL_ (some 20) rfl rfl Try.func32 (by kernel_rfl) rfl #[.slice A2 l2.length c2] rfl mt ?_; (with_reducible refine (prebendref18_Asks.calls k _ _ l2 t781 _ ?side1 ?side2 A6.out).mono ?_); (case side1 => repeat (first | exact (Kd.C_below HR2.out HB.out) | (with_reducible refine Kd.C_alloc ?_ _) | (with_reducible refine Kd.C_drewN ?_ _) | (with_reducible refine Kd.C_drew ?_))); (case side2 => exact HC2.out); rintro e w20 ⟨v782, rfl, ho0, hb⟩; refine ⟨_, rfl, ?_⟩; have n0_ := Aside0.mk (Kd.R_below (mR HO780.out) hb); have n1_ := Aside0.mk (Kd.R_lower (Kd.R_newB ho0 (g := gb777) (o := .cells #[.int .i64 a3_0, .int .i64 a3_1] 52 (0, 0)) (mBK BK777.out)) (below_size (mBs HB.out))); have n2_ := Aside0.mk (blk_below (g := gb777) (o := .cells #[.int .i64 a3_0, .int .i64 a3_1] 52 (0, 0)) (mBK BK777.out) hb); have n3_ := Aside0.mk (below_step (mBs HB.out) hb); clear HO780; clear BK777; clear HB; have HO780 := n0_; have HO783 := n1_; have BK777 := n2_; have HB := n3_; clear n0_ n1_ n2_ n3_; (try clear hb); (try clear hb2); (try clear hk); (try clear hi); (try clear ho0); obtain ⟨Ao21, co21, eo21⟩ := Kd.R_slice HO780.out; subst eo21; obtain ⟨Ao22, co22, eo22⟩ := Kd.R_slice HO783.out; subst eo22) | ((with_reducible refine gate_callee (f := 37) rfl ?_); refine goesL_ (some 24) rfl rfl Try.func37 (by kernel_rfl) rfl #[.int .i64 0, .int .i64 (wrap64 (Int.tmod a0 40)), .slice Ao21 t778.length co21, .slice Ao22 t781.length co22, .slice none 0 0] rfl mt ?_; (refine (cons_Plan.calls k 0 (wrap64 (Int.tmod a0 40)) _ _ t778 _ _ t781 _ _ ([] : List Bool) t784 _ ?side1 ?side2 ?side3 ?side4 ?side5 ?side6 A7.out).mono ?_); (case side1 => exact mC (Kd.R_reads' HO780.out).2.2); (case side2 => exact (Kd.R_reads' HO780.out).2.1); (case side3 => exact mC (Kd.R_reads' HO783.out).2.2); (case side4 => exact (Kd.R_reads' HO783.out).2.1); (case side5 => exact Kd.C_nil _ _); (case side6 => exact Nat.le_refl _); rintro e w23 ⟨v785, rfl, ho0, hb⟩; refine ⟨_, rfl, ?_⟩; have n0_ := Aside0.mk (Kd.R_below (mR HO780.out) hb); have n1_ := Aside0.mk (Kd.R_below (mR HO783.out) hb); have n2_ := Aside0.mk (Kd.V_lower (Kd.V_mono (ok' := fun k_ => some k_ ≠ (.slice Ao21 t778.length co21 : Value).ownBlock ∧ some k_ ≠ (.slice Ao22 t781.length co22 : Value).ownBlock ∧ k_ ≠ gb777) ho0 (fun k_ hk_ => ⟨(Kd.fresh' (Kd.R_lt (mR HO780.out)) k_ hk_), (Kd.fresh' (Kd.R_lt (mR HO783.out)) k_ hk_), (Kd.freshB (g := gb777) (o := .cells #[.int .i64 a3_0, .int .i64 a3_1] 52 (0, 0)) (mBK BK777.out) k_ hk_)⟩)) (below_size (mBs HB.out))); have n3_ := Aside0.mk (blk_below (g := gb777) (o := .cells #[.int .i64 a3_0, .int .i64 a3_1] 52 (0, 0)) (mBK BK777.out) hb); have n4_ := Aside0.mk (below_step (mBs HB.out) hb); clear HO780; clear HO783; clear BK777; clear HB; have HO780 := n0_; have HO783 := n1_; have HO786 := n2_; have BK777 := n3_; have HB := n4_; clear n0_ n1_ n2_ n3_ n4_; (try clear hb); (try clear hb2); (try clear hk); (try clear hi); (try clear ho0)))
       have n0_ := Aside0.mk (Kd.R_drew HO780.out)
       have n1_ := Aside0.mk (Kd.R_drew HO783.out)
       have n2_ := Aside0.mk (Kd.V_drew HO786.out)
       have n3_ := Aside0.mk (blk_drew BK777.out)
       have n4_ := Aside0.mk (below_drew1 HB.out)
       clear HO780; clear HO783; clear HO786; clear BK777; clear HB
       have HO780 := n0_
       have HO783 := n1_
       have HO786 := n2_
       have BK777 := n3_
       have HB := n4_
       clear n0_; clear n1_; clear n2_; clear n3_; clear n4_
       refine start_ (n := 11) (S := fun w' => w'.cell? ⟨gb777, 0, none⟩ = some (.int .i64 a3_0) ∧ w'.cell? ⟨gb777, 1, none⟩ = some (.int .i64 a3_1)) (ds := []) #[false, false, false, false, false, false, false, false, false, false, false] (by kernel_rfl) rfl rfl ⟨(blk_cell BK777.out 0).trans rfl, (blk_cell BK777.out 1).trans rfl⟩ (fun hHeld => ?_); refine with_tabW prebendlaw18_ConsLater.tab4 prebendlaw18_ConsLater.bits4 (fun HT_ HW_ => ?_)
       generalize w23.drew = w24 at HO780 HO783 HO786 BK777 HB hHeld ⊢
       refine plan_ [(0, 25), (1, 26), (3, 28)] ?_
       iterate 3 (refine planP_ (v := ?_) (a' := ?_) rfl rfl (any_of HT_.out (by kernel_rfl)) (fun _ _ _ h => h) (Or.inl ⟨by rfl, ?_⟩) ?_ ?_; rotate_left; (intro w'; go_simp; with_reducible rfl); rotate_left; (simp only [Act.put, List.setIfInBounds_toArray, List.set_cons_zero, List.set_cons_succ, i64_w, i32_w]; rfl))
       refine planEnd_ ?_
       refine plan_ [(5, 30)] ?_
       refine planT_ (v := ?_) (a' := ?_) rfl rfl (take_ofW HT_.out HW_.out (by kernel_rfl)) (fun _ _ _ h => h) (Or.inl ⟨by rfl, ?_⟩) hHeld ?_ ?_; rotate_left; (rintro w' ⟨s0, s1⟩; go_simp; with_reducible rfl); rotate_left; (simp only [Act.put, List.setIfInBounds_toArray, List.set_cons_zero, List.set_cons_succ, i64_w, i32_w]; rfl)
       refine planEnd_ ?_
       refine join_ (σ := Value × Value × Value) 4 #[true, true, true, true, true, true, true, false, false, false, false] (fun s_ => [(27, s_.1), (29, s_.2.1), (31, s_.2.2)]) (fun s_ w' => (w'.cell? ⟨gb777, 0, none⟩ = some (.int .i64 a3_0) ∧ w'.cell? ⟨gb777, 1, none⟩ = some (.int .i64 a3_1)) ∧ (Kd.R k38 38 w' w.heap.size (fun _ => True) (.slice Ao21 t778.length co21) t778) ∧ (Kd.R k52 52 w' w.heap.size (fun k_ => some k_ ≠ (s_.2.1 : Value).ownBlock ∧ some k_ ≠ (s_.2.2 : Value).ownBlock ∧ k_ ≠ gb777) (.slice Ao22 t781.length co22) t781) ∧ (Kd.V (Kd.int .i64) 3 w' w.heap.size (fun k_ => some k_ ≠ (.slice Ao21 t778.length co21 : Value).ownBlock ∧ some k_ ≠ (.slice Ao22 t781.length co22 : Value).ownBlock ∧ some k_ ≠ (s_.2.1 : Value).ownBlock ∧ some k_ ≠ (s_.2.2 : Value).ownBlock ∧ k_ ≠ gb777) v785 t784) ∧ (Kd.R k52 52 w' w.heap.size (fun k_ => some k_ ≠ (.slice Ao22 t781.length co22 : Value).ownBlock ∧ some k_ ≠ (s_.2.2 : Value).ownBlock ∧ k_ ≠ gb777) s_.2.1 y790) ∧ (Kd.R k52 52 w' w.heap.size (fun k_ => some k_ ≠ (.slice Ao22 t781.length co22 : Value).ownBlock ∧ some k_ ≠ (s_.2.1 : Value).ownBlock ∧ k_ ≠ gb777) s_.2.2 y793) ∧ (w'.heap[gb777]? = some (.cells #[.int .i64 a3_0, .int .i64 a3_1] 52 (0, 0))) ∧ (Below w.heap.size w w')) ?_ ?_
       rotate_left
       ·intro hCont
        refine two_ (i := 2) (j := 6) (Ni := some 27) (Nj := some 31) #[true, true, true, true, false, true, false, false, false, false, false] #[true, true, false, true, false, true, true, false, false, false, false] rfl rfl rfl rfl (two_of HT_.out (by kernel_rfl)) (by decide) (by decide) (fun K hK => ?_) (fun K hK => ?_)
        ·skip
         refine Kd.R_lit_step k52 _ 52 ?hg (N := 27) ?hd (xs := ([] : List (S52))) (inner := []) (ok := fun _ => True) (okp := fun _ => True) ?hr ?hp (fun _ hk => hk) trivial (Below.refl _ _) (Nat.le_refl _) (by simp) ?_; (case hd => rfl); (case hg => rfl); (case hr => first | (go_simp; done) | (go_simp; rfl)); (case hp => exact (Reps.none _ _))
         intro v788 w25 ho26 hb hg_ hnew_
         clear hg_; clear hnew_
         (first | rw [← Ny787.out] at ho26 | (simp only [Int.reduceToNat] at ho26; rw [← Ny787.out] at ho26))
         have n0_ := Aside0.mk (Kd.R_below (mR HO780.out) hb)
         have n1_ := Aside0.mk (Kd.R_elder' (mR HO783.out) (Kd.R_base ho26) hb)
         have n2_ := Aside0.mk (Kd.V_elder' (mV HO786.out) (Kd.R_base ho26) hb)
         have n3_ := Aside0.mk (Kd.R_lower (Kd.R_newB (Kd.R_new' ho26 (Kd.R_lt (mR HO783.out))) (g := gb777) (o := .cells #[.int .i64 a3_0, .int .i64 a3_1] 52 (0, 0)) (mBK BK777.out)) (below_size (mBs HB.out)))
         have n4_ := Aside0.mk (blk_below (g := gb777) (o := .cells #[.int .i64 a3_0, .int .i64 a3_1] 52 (0, 0)) (mBK BK777.out) hb)
         have n5_ := Aside0.mk (below_step (mBs HB.out) hb)
         clear HO780; clear HO783; clear HO786; clear BK777; clear HB
         have HO780 := n0_
         have HO783 := n1_
         have HO786 := n2_
         have HO789 := n3_
         have BK777 := n4_
         have HB := n5_
         clear n0_; clear n1_; clear n2_; clear n3_; clear n4_; clear n5_; clear hb; clear ho26
         refine hK.out _ _ ⟨(blk_cell BK777.out 0).trans rfl, (blk_cell BK777.out 1).trans rfl⟩ (fun hHeld => ?_)
         clear hK; clear K
         refine norm_ (a' := ?_) ?_ ?_
         rotate_left
         ·show Act.put _ (some 27) _ = _
          simp only [Act.put, List.setIfInBounds_toArray, List.set_cons_zero, List.set_cons_succ, i64_w, i32_w]
          rfl
         refine two_ (i := 4) (j := 6) (Ni := some 29) (Nj := some 31) #[true, true, true, true, true, true, false, false, false, false, false] #[true, true, true, true, false, true, true, false, false, false, false] rfl rfl rfl rfl (two_of HT_.out (by kernel_rfl)) (by decide) (by decide) (fun K hK => ?_) (fun K hK => ?_)
         ·skip
          refine Kd.R_append_rows_step k52 (w0 := w) w.heap.size (by rfl) (.tmp 27) (.tmp 28) 44 52 (.agg #[(.int .i64 0), (.int .i64 0)]) 16 rfl Try.underlying44 info52 rfl (by decide) (by omega) v788 y787 t781 _ _ _ (fun k_ => some k_ ≠ (.slice Ao22 t781.length co22 : Value).ownBlock ∧ k_ ≠ gb777) (fun _ => False) rfl rfl ?aO ?aR (fun _ _ h => h) (fun _ h => h.elim) ?aF ?aB ?aS ?aL ?_
          (case aR => repeat (first | exact (Kd.R_reads' HO783.out).2.2 | (with_reducible refine Kd.C_alloc ?_ _) | (with_reducible refine Kd.C_drewN ?_ _) | (with_reducible refine Kd.C_drew ?_)))
          (case aB => exact (mBs HB.out))
          (case aF => exact (fun k_ hk => ⟨Kd.fresh' (Kd.R_lt (mR HO783.out)) k_ hk, Kd.freshB (g := gb777) (o := .cells #[.int .i64 a3_0, .int .i64 a3_1] 52 (0, 0)) (mBK BK777.out) k_ hk⟩))
          (case aO => exact (by (with_reducible repeat (first | apply Kd.R_alloc | apply Kd.R_drewN | apply Kd.R_drew)); exact Kd.R_mono HO789.out (fun _ hk => ⟨hk.1.2, hk.2⟩)))
          (case aS => exact (below_size (mBs HB.out)))
          (case aL => have := LMc8.out; omega)
          intro v791 w27 ho hb hg hat
          rw [← Ny790.out] at ho
          have n0_ := Aside0.mk (blk_grown (g := gb777) (o := .cells #[.int .i64 a3_0, .int .i64 a3_1] 52 (0, 0)) (mBK BK777.out) hg (Kd.R_away HO789.out (fun _ hk => hk.2)))
          have n1_ := Aside0.mk (Kd.R_over' (mR HO780.out) (Kd.R_typed (mR HO789.out)) (by decide) hg)
          have n2_ := Aside0.mk (Kd.R_after (ok := (fun k_ => k_ ≠ gb777)) (by (with_reducible repeat (first | apply Kd.R_alloc | apply Kd.R_drewN | apply Kd.R_drew)); exact Kd.R_mono HO783.out (fun _ hk => ⟨hk.1.2, hk.2⟩)) hg hat)
          have n3_ := Aside0.mk (Kd.V_afterv (ok := (fun k_ => some k_ ≠ (.slice Ao21 t778.length co21 : Value).ownBlock ∧ some k_ ≠ (.slice Ao22 t781.length co22 : Value).ownBlock ∧ k_ ≠ gb777)) (mV HO786.out) hg hat)
          have n4_ := Aside0.mk (hb)
          have n5_ := Aside0.mk (ho)
          clear BK777; clear HO780; clear HO783; clear HO786; clear HB; clear HO789
          have BK777 := n0_
          have HO780 := n1_
          have HO783 := n2_
          have HO786 := n3_
          have HB := n4_
          have HO792 := n5_
          clear n0_; clear n1_; clear n2_; clear n3_; clear n4_; clear n5_; clear ho; clear hb; clear hg; clear hat
          refine hK.out _ _ ⟨(blk_cell BK777.out 0).trans rfl, (blk_cell BK777.out 1).trans rfl⟩ (fun hHeld => ?_)
          clear hK; clear K
          refine norm_ (a' := ?_) ?_ ?_
          rotate_left
          ·show Act.put _ (some 29) _ = _
           simp only [Act.put, List.setIfInBounds_toArray, List.set_cons_zero, List.set_cons_succ, i64_w, i32_w]
           rfl
          refine one_ (i := 6) (N := some 31) #[true, true, true, true, true, true, true, false, false, false, false] rfl rfl (one_of HT_.out (by kernel_rfl)) (by decide) (fun K hK => ?_)
          refine Kd.R_lit_step k52 _ 52 ?hg (N := 31) ?hd (xs := ([(⟨a3_0, a3_1⟩ : S52)] : List (S52))) (inner := [.int .i64 a3_0, .int .i64 a3_1]) (ok := fun _ => True) (okp := fun _ => True) ?hr ?hp (fun _ hk => hk) trivial (Below.refl _ _) (Nat.le_refl _) (by simp) ?_; (case hd => rfl); (case hg => rfl); (case hr => first | (go_simp; done) | (go_simp; rfl)); (case hp => exact (Reps.c2 (show Kd.M k52 _ _ _ (⟨a3_0, a3_1⟩ : S52) [.int .i64 a3_0, .int .i64 a3_1] from (k52_mkM _ _ _ (⟨a3_0, a3_1⟩ : S52) )) (Reps.none _ _)))
          intro v794 w28 ho29 hb hg_ hnew_
          clear hg_; clear hnew_
          (first | rw [← Ny793.out] at ho29 | (simp only [Int.reduceToNat] at ho29; rw [← Ny793.out] at ho29))
          have n0_ := Aside0.mk (Kd.R_below (mR HO780.out) hb)
          have n1_ := Aside0.mk (Kd.R_elder' (mR HO783.out) (Kd.R_base ho29) hb)
          have n2_ := Aside0.mk (Kd.V_elder' (mV HO786.out) (Kd.R_base ho29) hb)
          have n3_ := Aside0.mk (Kd.R_elder' (mR HO792.out) (Kd.R_base ho29) hb)
          have n4_ := Aside0.mk (Kd.R_lower (Kd.R_newB (Kd.R_new' (Kd.R_new' ho29 (Kd.R_lt (mR HO783.out))) (Kd.R_lt (mR HO792.out))) (g := gb777) (o := .cells #[.int .i64 a3_0, .int .i64 a3_1] 52 (0, 0)) (mBK BK777.out)) (below_size (mBs HB.out)))
          have n5_ := Aside0.mk (blk_below (g := gb777) (o := .cells #[.int .i64 a3_0, .int .i64 a3_1] 52 (0, 0)) (mBK BK777.out) hb)
          have n6_ := Aside0.mk (below_step (mBs HB.out) hb)
          clear HO780; clear HO783; clear HO786; clear HO792; clear BK777; clear HB
          have HO780 := n0_
          have HO783 := n1_
          have HO786 := n2_
          have HO792 := n3_
          have HO795 := n4_
          have BK777 := n5_
          have HB := n6_
          clear n0_; clear n1_; clear n2_; clear n3_; clear n4_; clear n5_; clear n6_; clear hb; clear ho29
          refine hK.out _ _ ⟨(blk_cell BK777.out 0).trans rfl, (blk_cell BK777.out 1).trans rfl⟩ (fun hHeld => ?_)
          clear hK; clear K
          refine norm_ (a' := ?_) ?_ ?_
          rotate_left
          ·show Act.put _ (some 31) _ = _
           simp only [Act.put, List.setIfInBounds_toArray, List.set_cons_zero, List.set_cons_succ, i64_w, i32_w]
           rfl
          exact norm_ (by simp only [putAll, Act.put, List.setIfInBounds_toArray, List.set_cons_zero, List.set_cons_succ]) (hCont (v788, v791, v794) _ ⟨hHeld, (mR HO780.out), (by (with_reducible repeat (first | apply Kd.R_alloc | apply Kd.R_drewN | apply Kd.R_drew)); exact Kd.R_mono HO783.out (fun _ hk => ⟨hk.1.2, ⟨hk.2, hk.1.1⟩⟩)), (by (with_reducible repeat (first | apply Kd.V_alloc | apply Kd.V_drewN | apply Kd.V_drew)); exact Kd.V_mono HO786.out (fun _ hk => ⟨hk.1.1.1, ⟨hk.1.1.2.1, ⟨hk.1.2, ⟨hk.2, hk.1.1.2.2⟩⟩⟩⟩)), (by (with_reducible repeat (first | apply Kd.R_alloc | apply Kd.R_drewN | apply Kd.R_drew)); exact Kd.R_mono HO792.out (fun _ hk => ⟨hk.1.1, ⟨hk.2, hk.1.2⟩⟩)), (by (with_reducible repeat (first | apply Kd.R_alloc | apply Kd.R_drewN | apply Kd.R_drew)); exact Kd.R_mono HO795.out (fun _ hk => ⟨hk.1.1.2, ⟨hk.1.2, hk.2⟩⟩)), (mBK BK777.out), (mBs HB.out)⟩)
         ·skip
          refine Kd.R_lit_step k52 _ 52 ?hg (N := 31) ?hd (xs := ([(⟨a3_0, a3_1⟩ : S52)] : List (S52))) (inner := [.int .i64 a3_0, .int .i64 a3_1]) (ok := fun _ => True) (okp := fun _ => True) ?hr ?hp (fun _ hk => hk) trivial (Below.refl _ _) (Nat.le_refl _) (by simp) ?_; (case hd => rfl); (case hg => rfl); (case hr => first | (go_simp; done) | (go_simp; rfl)); (case hp => exact (Reps.c2 (show Kd.M k52 _ _ _ (⟨a3_0, a3_1⟩ : S52) [.int .i64 a3_0, .int .i64 a3_1] from (k52_mkM _ _ _ (⟨a3_0, a3_1⟩ : S52) )) (Reps.none _ _)))
          intro v794 w27 ho28 hb hg_ hnew_
          clear hg_; clear hnew_
          (first | rw [← Ny793.out] at ho28 | (simp only [Int.reduceToNat] at ho28; rw [← Ny793.out] at ho28))
          have n0_ := Aside0.mk (Kd.R_below (mR HO780.out) hb)
          have n1_ := Aside0.mk (Kd.R_elder' (mR HO783.out) (Kd.R_base ho28) hb)
          have n2_ := Aside0.mk (Kd.V_elder' (mV HO786.out) (Kd.R_base ho28) hb)
          have n3_ := Aside0.mk (Kd.R_elder' (mR HO789.out) (Kd.R_base ho28) hb)
          have n4_ := Aside0.mk (Kd.R_lower (Kd.R_newB (Kd.R_new' (Kd.R_new' ho28 (Kd.R_lt (mR HO783.out))) (Kd.R_lt (mR HO789.out))) (g := gb777) (o := .cells #[.int .i64 a3_0, .int .i64 a3_1] 52 (0, 0)) (mBK BK777.out)) (below_size (mBs HB.out)))
          have n5_ := Aside0.mk (blk_below (g := gb777) (o := .cells #[.int .i64 a3_0, .int .i64 a3_1] 52 (0, 0)) (mBK BK777.out) hb)
          have n6_ := Aside0.mk (below_step (mBs HB.out) hb)
          clear HO780; clear HO783; clear HO786; clear HO789; clear BK777; clear HB
          have HO780 := n0_
          have HO783 := n1_
          have HO786 := n2_
          have HO789 := n3_
          have HO795 := n4_
          have BK777 := n5_
          have HB := n6_
          clear n0_; clear n1_; clear n2_; clear n3_; clear n4_; clear n5_; clear n6_; clear hb; clear ho28
          refine hK.out _ _ ⟨(blk_cell BK777.out 0).trans rfl, (blk_cell BK777.out 1).trans rfl⟩ (fun hHeld => ?_)
          clear hK; clear K
          refine norm_ (a' := ?_) ?_ ?_
          rotate_left
          ·show Act.put _ (some 31) _ = _
           simp only [Act.put, List.setIfInBounds_toArray, List.set_cons_zero, List.set_cons_succ, i64_w, i32_w]
           rfl
          refine one_ (i := 4) (N := some 29) #[true, true, true, true, true, true, true, false, false, false, false] rfl rfl (one_of HT_.out (by kernel_rfl)) (by decide) (fun K hK => ?_)
          refine Kd.R_append_rows_step k52 (w0 := w) w.heap.size (by rfl) (.tmp 27) (.tmp 28) 44 52 (.agg #[(.int .i64 0), (.int .i64 0)]) 16 rfl Try.underlying44 info52 rfl (by decide) (by omega) v788 y787 t781 _ _ _ (fun k_ => some k_ ≠ (.slice Ao22 t781.length co22 : Value).ownBlock ∧ some k_ ≠ (v794 : Value).ownBlock ∧ k_ ≠ gb777) (fun _ => False) rfl rfl ?aO ?aR (fun _ _ h => h) (fun _ h => h.elim) ?aF ?aB ?aS ?aL ?_
          (case aR => repeat (first | exact (Kd.R_reads' HO783.out).2.2 | (with_reducible refine Kd.C_alloc ?_ _) | (with_reducible refine Kd.C_drewN ?_ _) | (with_reducible refine Kd.C_drew ?_)))
          (case aB => exact (mBs HB.out))
          (case aF => exact (fun k_ hk => ⟨Kd.fresh' (Kd.R_lt (mR HO783.out)) k_ hk, Kd.fresh' (Kd.R_lt (mR HO795.out)) k_ hk, Kd.freshB (g := gb777) (o := .cells #[.int .i64 a3_0, .int .i64 a3_1] 52 (0, 0)) (mBK BK777.out) k_ hk⟩))
          (case aO => exact (by (with_reducible repeat (first | apply Kd.R_alloc | apply Kd.R_drewN | apply Kd.R_drew)); exact Kd.R_mono HO789.out (fun _ hk => ⟨hk.1.1.2, ⟨hk.2, hk.1.2⟩⟩)))
          (case aS => exact (below_size (mBs HB.out)))
          (case aL => have := LMc8.out; omega)
          intro v791 w29 ho hb hg hat
          rw [← Ny790.out] at ho
          have n0_ := Aside0.mk (blk_grown (g := gb777) (o := .cells #[.int .i64 a3_0, .int .i64 a3_1] 52 (0, 0)) (mBK BK777.out) hg (Kd.R_away HO789.out (fun _ hk => hk.1.2)))
          have n1_ := Aside0.mk (Kd.R_over' (mR HO780.out) (Kd.R_typed (mR HO789.out)) (by decide) hg)
          have n2_ := Aside0.mk (Kd.R_after (ok := (fun k_ => some k_ ≠ (v794 : Value).ownBlock ∧ k_ ≠ gb777)) (by (with_reducible repeat (first | apply Kd.R_alloc | apply Kd.R_drewN | apply Kd.R_drew)); exact Kd.R_mono HO783.out (fun _ hk => ⟨⟨hk.2, hk.1.1.2⟩, hk.1.2⟩)) hg hat)
          have n3_ := Aside0.mk (Kd.V_afterv (ok := (fun k_ => some k_ ≠ (.slice Ao21 t778.length co21 : Value).ownBlock ∧ some k_ ≠ (.slice Ao22 t781.length co22 : Value).ownBlock ∧ some k_ ≠ (v794 : Value).ownBlock ∧ k_ ≠ gb777)) (by (with_reducible repeat (first | apply Kd.V_alloc | apply Kd.V_drewN | apply Kd.V_drew)); exact Kd.V_mono HO786.out (fun _ hk => ⟨⟨hk.1.1.1, ⟨hk.1.1.2.1, ⟨hk.2, hk.1.1.2.2⟩⟩⟩, hk.1.2⟩)) hg hat)
          have n4_ := Aside0.mk (Kd.R_after (ok := (fun k_ => some k_ ≠ (.slice Ao22 t781.length co22 : Value).ownBlock ∧ k_ ≠ gb777)) (by (with_reducible repeat (first | apply Kd.R_alloc | apply Kd.R_drewN | apply Kd.R_drew)); exact Kd.R_mono HO795.out (fun _ hk => ⟨⟨hk.1.1.2, hk.2⟩, hk.1.2⟩)) hg hat)
          have n5_ := Aside0.mk (hb)
          have n6_ := Aside0.mk (ho)
          clear BK777; clear HO780; clear HO783; clear HO786; clear HO795; clear HB; clear HO789
          have BK777 := n0_
          have HO780 := n1_
          have HO783 := n2_
          have HO786 := n3_
          have HO795 := n4_
          have HB := n5_
          have HO792 := n6_
          clear n0_; clear n1_; clear n2_; clear n3_; clear n4_; clear n5_; clear n6_; clear ho; clear hb; clear hg; clear hat
          refine hK.out _ _ ⟨(blk_cell BK777.out 0).trans rfl, (blk_cell BK777.out 1).trans rfl⟩ (fun hHeld => ?_)
          clear hK; clear K
          refine norm_ (a' := ?_) ?_ ?_
          rotate_left
          ·show Act.put _ (some 29) _ = _
           simp only [Act.put, List.setIfInBounds_toArray, List.set_cons_zero, List.set_cons_succ, i64_w, i32_w]
           rfl
          exact norm_ (by simp only [putAll, Act.put, List.setIfInBounds_toArray, List.set_cons_zero, List.set_cons_succ]) (hCont (v788, v791, v794) _ ⟨hHeld, (mR HO780.out), (by (with_reducible repeat (first | apply Kd.R_alloc | apply Kd.R_drewN | apply Kd.R_drew)); exact Kd.R_mono HO783.out (fun _ hk => ⟨hk.2, ⟨hk.1.1, hk.1.2⟩⟩)), (by (with_reducible repeat (first | apply Kd.V_alloc | apply Kd.V_drewN | apply Kd.V_drew)); exact Kd.V_mono HO786.out (fun _ hk => ⟨hk.1.1, ⟨hk.1.2.1, ⟨hk.2, ⟨hk.1.2.2.1, hk.1.2.2.2⟩⟩⟩⟩)), (mR HO792.out), (by (with_reducible repeat (first | apply Kd.R_alloc | apply Kd.R_drewN | apply Kd.R_drew)); exact Kd.R_mono HO795.out (fun _ hk => ⟨hk.1.1, ⟨hk.2, hk.1.2⟩⟩)), (mBK BK777.out), (mBs HB.out)⟩)
        ·skip
         refine Kd.R_lit_step k52 _ 52 ?hg (N := 31) ?hd (xs := ([(⟨a3_0, a3_1⟩ : S52)] : List (S52))) (inner := [.int .i64 a3_0, .int .i64 a3_1]) (ok := fun _ => True) (okp := fun _ => True) ?hr ?hp (fun _ hk => hk) trivial (Below.refl _ _) (Nat.le_refl _) (by simp) ?_; (case hd => rfl); (case hg => rfl); (case hr => first | (go_simp; done) | (go_simp; rfl)); (case hp => exact (Reps.c2 (show Kd.M k52 _ _ _ (⟨a3_0, a3_1⟩ : S52) [.int .i64 a3_0, .int .i64 a3_1] from (k52_mkM _ _ _ (⟨a3_0, a3_1⟩ : S52) )) (Reps.none _ _)))
         intro v794 w25 ho26 hb hg_ hnew_
         clear hg_; clear hnew_
         (first | rw [← Ny793.out] at ho26 | (simp only [Int.reduceToNat] at ho26; rw [← Ny793.out] at ho26))
         have n0_ := Aside0.mk (Kd.R_below (mR HO780.out) hb)
         have n1_ := Aside0.mk (Kd.R_elder' (mR HO783.out) (Kd.R_base ho26) hb)
         have n2_ := Aside0.mk (Kd.V_elder' (mV HO786.out) (Kd.R_base ho26) hb)
         have n3_ := Aside0.mk (Kd.R_lower (Kd.R_newB (Kd.R_new' ho26 (Kd.R_lt (mR HO783.out))) (g := gb777) (o := .cells #[.int .i64 a3_0, .int .i64 a3_1] 52 (0, 0)) (mBK BK777.out)) (below_size (mBs HB.out)))
         have n4_ := Aside0.mk (blk_below (g := gb777) (o := .cells #[.int .i64 a3_0, .int .i64 a3_1] 52 (0, 0)) (mBK BK777.out) hb)
         have n5_ := Aside0.mk (below_step (mBs HB.out) hb)
         clear HO780; clear HO783; clear HO786; clear BK777; clear HB
         have HO780 := n0_
         have HO783 := n1_
         have HO786 := n2_
         have HO795 := n3_
         have BK777 := n4_
         have HB := n5_
         clear n0_; clear n1_; clear n2_; clear n3_; clear n4_; clear n5_; clear hb; clear ho26
         refine hK.out _ _ ⟨(blk_cell BK777.out 0).trans rfl, (blk_cell BK777.out 1).trans rfl⟩ (fun hHeld => ?_)
         clear hK; clear K
         refine norm_ (a' := ?_) ?_ ?_
         rotate_left
         ·show Act.put _ (some 31) _ = _
          simp only [Act.put, List.setIfInBounds_toArray, List.set_cons_zero, List.set_cons_succ, i64_w, i32_w]
          rfl
         refine one_ (i := 2) (N := some 27) #[true, true, true, true, false, true, true, false, false, false, false] rfl rfl (one_of HT_.out (by kernel_rfl)) (by decide) (fun K hK => ?_)
         refine Kd.R_lit_step k52 _ 52 ?hg (N := 27) ?hd (xs := ([] : List (S52))) (inner := []) (ok := fun _ => True) (okp := fun _ => True) ?hr ?hp (fun _ hk => hk) trivial (Below.refl _ _) (Nat.le_refl _) (by simp) ?_; (case hd => rfl); (case hg => rfl); (case hr => first | (go_simp; done) | (go_simp; rfl)); (case hp => exact (Reps.none _ _))
         intro v788 w27 ho28 hb hg_ hnew_
         clear hg_; clear hnew_
         (first | rw [← Ny787.out] at ho28 | (simp only [Int.reduceToNat] at ho28; rw [← Ny787.out] at ho28))
         have n0_ := Aside0.mk (Kd.R_below (mR HO780.out) hb)
         have n1_ := Aside0.mk (Kd.R_elder' (mR HO783.out) (Kd.R_base ho28) hb)
         have n2_ := Aside0.mk (Kd.V_elder' (mV HO786.out) (Kd.R_base ho28) hb)
         have n3_ := Aside0.mk (Kd.R_elder' (mR HO795.out) (Kd.R_base ho28) hb)
         have n4_ := Aside0.mk (Kd.R_lower (Kd.R_newB (Kd.R_new' (Kd.R_new' ho28 (Kd.R_lt (mR HO783.out))) (Kd.R_lt (mR HO795.out))) (g := gb777) (o := .cells #[.int .i64 a3_0, .int .i64 a3_1] 52 (0, 0)) (mBK BK777.out)) (below_size (mBs HB.out)))
         have n5_ := Aside0.mk (blk_below (g := gb777) (o := .cells #[.int .i64 a3_0, .int .i64 a3_1] 52 (0, 0)) (mBK BK777.out) hb)
         have n6_ := Aside0.mk (below_step (mBs HB.out) hb)
         clear HO780; clear HO783; clear HO786; clear HO795; clear BK777; clear HB
         have HO780 := n0_
         have HO783 := n1_
         have HO786 := n2_
         have HO795 := n3_
         have HO789 := n4_
         have BK777 := n5_
         have HB := n6_
         clear n0_; clear n1_; clear n2_; clear n3_; clear n4_; clear n5_; clear n6_; clear hb; clear ho28
         refine hK.out _ _ ⟨(blk_cell BK777.out 0).trans rfl, (blk_cell BK777.out 1).trans rfl⟩ (fun hHeld => ?_)
         clear hK; clear K
         refine norm_ (a' := ?_) ?_ ?_
         rotate_left
         ·show Act.put _ (some 27) _ = _
          simp only [Act.put, List.setIfInBounds_toArray, List.set_cons_zero, List.set_cons_succ, i64_w, i32_w]
          rfl
         refine one_ (i := 4) (N := some 29) #[true, true, true, true, true, true, true, false, false, false, false] rfl rfl (one_of HT_.out (by kernel_rfl)) (by decide) (fun K hK => ?_)
         refine Kd.R_append_rows_step k52 (w0 := w) w.heap.size (by rfl) (.tmp 27) (.tmp 28) 44 52 (.agg #[(.int .i64 0), (.int .i64 0)]) 16 rfl Try.underlying44 info52 rfl (by decide) (by omega) v788 y787 t781 _ _ _ (fun k_ => some k_ ≠ (.slice Ao22 t781.length co22 : Value).ownBlock ∧ some k_ ≠ (v794 : Value).ownBlock ∧ k_ ≠ gb777) (fun _ => False) rfl rfl ?aO ?aR (fun _ _ h => h) (fun _ h => h.elim) ?aF ?aB ?aS ?aL ?_
         (case aR => repeat (first | exact (Kd.R_reads' HO783.out).2.2 | (with_reducible refine Kd.C_alloc ?_ _) | (with_reducible refine Kd.C_drewN ?_ _) | (with_reducible refine Kd.C_drew ?_)))
         (case aB => exact (mBs HB.out))
         (case aF => exact (fun k_ hk => ⟨Kd.fresh' (Kd.R_lt (mR HO783.out)) k_ hk, Kd.fresh' (Kd.R_lt (mR HO795.out)) k_ hk, Kd.freshB (g := gb777) (o := .cells #[.int .i64 a3_0, .int .i64 a3_1] 52 (0, 0)) (mBK BK777.out) k_ hk⟩))
         (case aO => exact (by (with_reducible repeat (first | apply Kd.R_alloc | apply Kd.R_drewN | apply Kd.R_drew)); exact Kd.R_mono HO789.out (fun _ hk => ⟨hk.1.1.2, ⟨hk.1.2, hk.2⟩⟩)))
         (case aS => exact (below_size (mBs HB.out)))
         (case aL => have := LMc8.out; omega)
         intro v791 w29 ho hb hg hat
         rw [← Ny790.out] at ho
         have n0_ := Aside0.mk (blk_grown (g := gb777) (o := .cells #[.int .i64 a3_0, .int .i64 a3_1] 52 (0, 0)) (mBK BK777.out) hg (Kd.R_away HO789.out (fun _ hk => hk.2)))
         have n1_ := Aside0.mk (Kd.R_over' (mR HO780.out) (Kd.R_typed (mR HO789.out)) (by decide) hg)
         have n2_ := Aside0.mk (Kd.R_after (ok := (fun k_ => some k_ ≠ (v794 : Value).ownBlock ∧ k_ ≠ gb777)) (by (with_reducible repeat (first | apply Kd.R_alloc | apply Kd.R_drewN | apply Kd.R_drew)); exact Kd.R_mono HO783.out (fun _ hk => ⟨⟨hk.1.2, hk.1.1.2⟩, hk.2⟩)) hg hat)
         have n3_ := Aside0.mk (Kd.V_afterv (ok := (fun k_ => some k_ ≠ (.slice Ao21 t778.length co21 : Value).ownBlock ∧ some k_ ≠ (.slice Ao22 t781.length co22 : Value).ownBlock ∧ some k_ ≠ (v794 : Value).ownBlock ∧ k_ ≠ gb777)) (by (with_reducible repeat (first | apply Kd.V_alloc | apply Kd.V_drewN | apply Kd.V_drew)); exact Kd.V_mono HO786.out (fun _ hk => ⟨⟨hk.1.1.1, ⟨hk.1.1.2.1, ⟨hk.1.2, hk.1.1.2.2⟩⟩⟩, hk.2⟩)) hg hat)
         have n4_ := Aside0.mk (Kd.R_after (ok := (fun k_ => some k_ ≠ (.slice Ao22 t781.length co22 : Value).ownBlock ∧ k_ ≠ gb777)) (by (with_reducible repeat (first | apply Kd.R_alloc | apply Kd.R_drewN | apply Kd.R_drew)); exact Kd.R_mono HO795.out (fun _ hk => ⟨⟨hk.1.1.2, hk.1.2⟩, hk.2⟩)) hg hat)
         have n5_ := Aside0.mk (hb)
         have n6_ := Aside0.mk (ho)
         clear BK777; clear HO780; clear HO783; clear HO786; clear HO795; clear HB; clear HO789
         have BK777 := n0_
         have HO780 := n1_
         have HO783 := n2_
         have HO786 := n3_
         have HO795 := n4_
         have HB := n5_
         have HO792 := n6_
         clear n0_; clear n1_; clear n2_; clear n3_; clear n4_; clear n5_; clear n6_; clear ho; clear hb; clear hg; clear hat
         refine hK.out _ _ ⟨(blk_cell BK777.out 0).trans rfl, (blk_cell BK777.out 1).trans rfl⟩ (fun hHeld => ?_)
         clear hK; clear K
         refine norm_ (a' := ?_) ?_ ?_
         rotate_left
         ·show Act.put _ (some 29) _ = _
          simp only [Act.put, List.setIfInBounds_toArray, List.set_cons_zero, List.set_cons_succ, i64_w, i32_w]
          rfl
         exact norm_ (by simp only [putAll, Act.put, List.setIfInBounds_toArray, List.set_cons_zero, List.set_cons_succ]) (hCont (v788, v791, v794) _ ⟨hHeld, (mR HO780.out), (by (with_reducible repeat (first | apply Kd.R_alloc | apply Kd.R_drewN | apply Kd.R_drew)); exact Kd.R_mono HO783.out (fun _ hk => ⟨hk.2, ⟨hk.1.1, hk.1.2⟩⟩)), (by (with_reducible repeat (first | apply Kd.V_alloc | apply Kd.V_drewN | apply Kd.V_drew)); exact Kd.V_mono HO786.out (fun _ hk => ⟨hk.1.1, ⟨hk.1.2.1, ⟨hk.2, ⟨hk.1.2.2.1, hk.1.2.2.2⟩⟩⟩⟩)), (mR HO792.out), (by (with_reducible repeat (first | apply Kd.R_alloc | apply Kd.R_drewN | apply Kd.R_drew)); exact Kd.R_mono HO795.out (fun _ hk => ⟨hk.1.1, ⟨hk.2, hk.1.2⟩⟩)), (mBK BK777.out), (mBs HB.out)⟩)
       rintro ⟨v788, v791, v794⟩ w30 ⟨hS_, h0_, h1_, h2_, h3_, h4_, h5_, h6_⟩
       have n0_ : Aside0 (Kd.R k38 38 w30 w.heap.size (fun _ => True) (.slice Ao21 t778.length co21) t778) := ⟨h0_⟩
       have n1_ : Aside0 (Kd.R k52 52 w30 w.heap.size (fun k_ => some k_ ≠ (v791 : Value).ownBlock ∧ some k_ ≠ (v794 : Value).ownBlock ∧ k_ ≠ gb777) (.slice Ao22 t781.length co22) t781) := ⟨h1_⟩
       have n2_ : Aside0 (Kd.V (Kd.int .i64) 3 w30 w.heap.size (fun k_ => some k_ ≠ (.slice Ao21 t778.length co21 : Value).ownBlock ∧ some k_ ≠ (.slice Ao22 t781.length co22 : Value).ownBlock ∧ some k_ ≠ (v791 : Value).ownBlock ∧ some k_ ≠ (v794 : Value).ownBlock ∧ k_ ≠ gb777) v785 t784) := ⟨h2_⟩
       have n3_ : Aside0 (Kd.R k52 52 w30 w.heap.size (fun k_ => some k_ ≠ (.slice Ao22 t781.length co22 : Value).ownBlock ∧ some k_ ≠ (v794 : Value).ownBlock ∧ k_ ≠ gb777) v791 y790) := ⟨h3_⟩
       have n4_ : Aside0 (Kd.R k52 52 w30 w.heap.size (fun k_ => some k_ ≠ (.slice Ao22 t781.length co22 : Value).ownBlock ∧ some k_ ≠ (v791 : Value).ownBlock ∧ k_ ≠ gb777) v794 y793) := ⟨h4_⟩
       have n5_ : Aside0 (w30.heap[gb777]? = some (.cells #[.int .i64 a3_0, .int .i64 a3_1] 52 (0, 0))) := ⟨h5_⟩
       have n6_ : Aside0 (Below w.heap.size w w30) := ⟨h6_⟩
       clear HO780; clear HO783; clear HO786; clear BK777; clear HB; clear h0_; clear h1_; clear h2_; clear h3_; clear h4_; clear h5_; clear h6_
       have HO780 := n0_
       have HO783 := n1_
       have HO786 := n2_
       have HO792 := n3_
       have HO795 := n4_
       have BK777 := n5_
       have HB := n6_
       clear n0_; clear n1_; clear n2_; clear n3_; clear n4_; clear n5_; clear n6_
       have hHeld : w30.cell? ⟨gb777, 0, none⟩ = some (.int .i64 a3_0) ∧ w30.cell? ⟨gb777, 1, none⟩ = some (.int .i64 a3_1) := hS_
       obtain ⟨Ao31, co31, eo31⟩ := Kd.R_slice HO795.out
       (first | subst eo31 | (injection eo31 with f1_ f2_ f3_; have f4_ := f1_.symm; have f5_ := f3_.symm; clear f1_ f2_ f3_; subst f4_; subst f5_))
       refine norm_ (a' := ?_) ?_ ?_
       rotate_left
       ·simp only [putAll, Act.put, List.setIfInBounds_toArray, List.set_cons_zero, List.set_cons_succ]
        rfl
       refine one_ (i := 7) (N := some 32) #[true, true, true, true, true, true, true, true, false, false, false] rfl rfl (one_of HT_.out (by kernel_rfl)) (by decide) (fun K hK => ?_)
       refine goes_ Try.func32 (by kernel_rfl) rfl #[.slice Ao31 y793.length co31] (by rfl) rfl rfl mt ?_
       with_reducible refine (prebendref18_Asks.calls k _ _ y793 t796 _ ?side1 ?side2 A9.out).mono ?_
       (case side1 => exact mC (Kd.R_reads' HO795.out).2.2)
       (case side2 => exact (Kd.R_reads' HO795.out).2.1)
       rintro e w32 ⟨v797, rfl, ho0, hb⟩
       refine ⟨_, rfl, ?_⟩
       have n0_ := Aside0.mk (Kd.R_below (mR HO780.out) hb)
       have n1_ := Aside0.mk (Kd.R_elder' (mR HO783.out) (Kd.R_base ho0) hb)
       have n2_ := Aside0.mk (Kd.V_elder' (mV HO786.out) (Kd.R_base ho0) hb)
       have n3_ := Aside0.mk (Kd.R_elder' (mR HO792.out) (Kd.R_base ho0) hb)
       have n4_ := Aside0.mk (Kd.R_elder' (mR HO795.out) (Kd.R_base ho0) hb)
       have n5_ := Aside0.mk (Kd.R_lower (Kd.R_newB (Kd.R_new' (Kd.R_new' (Kd.R_new' ho0 (Kd.R_lt (mR HO783.out))) (Kd.R_lt (mR HO792.out))) (Kd.R_lt (mR HO795.out))) (g := gb777) (o := .cells #[.int .i64 a3_0, .int .i64 a3_1] 52 (0, 0)) (mBK BK777.out)) (below_size (mBs HB.out)))
       have n6_ := Aside0.mk (blk_below (g := gb777) (o := .cells #[.int .i64 a3_0, .int .i64 a3_1] 52 (0, 0)) (mBK BK777.out) hb)
       have n7_ := Aside0.mk (below_step (mBs HB.out) hb)
       clear HO780; clear HO783; clear HO786; clear HO792; clear HO795; clear BK777; clear HB
       have HO780 := n0_
       have HO783 := n1_
       have HO786 := n2_
       have HO792 := n3_
       have HO795 := n4_
       have HO798 := n5_
       have BK777 := n6_
       have HB := n7_
       clear n0_; clear n1_; clear n2_; clear n3_; clear n4_; clear n5_; clear n6_; clear n7_
       (try clear hb); (try clear hb2); (try clear hk); (try clear hi); (try clear ho0)
       obtain ⟨Ao34, co34, eo34⟩ := Kd.R_slice HO798.out
       (first | subst eo34 | (injection eo34 with f1_ f2_ f3_; have f4_ := f1_.symm; have f5_ := f3_.symm; clear f1_ f2_ f3_; subst f4_; subst f5_))
       refine hK.out _ _ ⟨(blk_cell BK777.out 0).trans rfl, (blk_cell BK777.out 1).trans rfl⟩ (fun hHeld => ?_)
       clear hK; clear K
       refine norm_ (a' := ?_) ?_ ?_
       rotate_left
       ·show Act.put _ (some 32) _ = _
        simp only [Act.put, List.setIfInBounds_toArray, List.set_cons_zero, List.set_cons_succ, i64_w, i32_w]
        rfl
       refine one_ (i := 8) (N := some 33) #[true, true, true, true, true, true, true, true, true, false, false] rfl rfl (one_of HT_.out (by kernel_rfl)) (by decide) (fun K hK => ?_)
       refine Kd.R_append_rows_step k52 (w0 := w) w.heap.size (by rfl) (.tmp 29) (.tmp 32) 44 52 (.agg #[(.int .i64 0), (.int .i64 0)]) 16 rfl Try.underlying44 info52 rfl (by decide) (by omega) v791 y790 t796 _ _ _ (fun k_ => some k_ ≠ (.slice Ao22 t781.length co22 : Value).ownBlock ∧ some k_ ≠ (.slice Ao31 y793.length co31 : Value).ownBlock ∧ some k_ ≠ (.slice Ao34 t796.length co34 : Value).ownBlock ∧ k_ ≠ gb777) (fun _ => False) rfl rfl ?aO ?aR (fun _ _ h => h) (fun _ h => h.elim) ?aF ?aB ?aS ?aL ?_
       (case aR => repeat (first | exact (Kd.R_reads' HO798.out).2.2 | (with_reducible refine Kd.C_alloc ?_ _) | (with_reducible refine Kd.C_drewN ?_ _) | (with_reducible refine Kd.C_drew ?_)))
       (case aB => exact (mBs HB.out))
       (case aF => exact (fun k_ hk => ⟨Kd.fresh' (Kd.R_lt (mR HO783.out)) k_ hk, Kd.fresh' (Kd.R_lt (mR HO795.out)) k_ hk, Kd.fresh' (Kd.R_lt (mR HO798.out)) k_ hk, Kd.freshB (g := gb777) (o := .cells #[.int .i64 a3_0, .int .i64 a3_1] 52 (0, 0)) (mBK BK777.out) k_ hk⟩))
       (case aO => exact (by (with_reducible repeat (first | apply Kd.R_alloc | apply Kd.R_drewN | apply Kd.R_drew)); exact Kd.R_mono HO792.out (fun _ hk => ⟨hk.1.1, ⟨hk.1.2.1, ⟨hk.2, hk.1.2.2⟩⟩⟩)))
       (case aS => exact (below_size (mBs HB.out)))
       (case aL => have := LMc10.out; omega)
       intro v800 w33 ho hb hg hat
       rw [← Ny799.out] at ho
       have n0_ := Aside0.mk (blk_grown (g := gb777) (o := .cells #[.int .i64 a3_0, .int .i64 a3_1] 52 (0, 0)) (mBK BK777.out) hg (Kd.R_away HO792.out (fun _ hk => hk.1.2.2)))
       have n1_ := Aside0.mk (Kd.R_over' (mR HO780.out) (Kd.R_typed (mR HO792.out)) (by decide) hg)
       have n2_ := Aside0.mk (Kd.R_after (ok := (fun k_ => some k_ ≠ (.slice Ao31 y793.length co31 : Value).ownBlock ∧ some k_ ≠ (.slice Ao34 t796.length co34 : Value).ownBlock ∧ k_ ≠ gb777)) (by (with_reducible repeat (first | apply Kd.R_alloc | apply Kd.R_drewN | apply Kd.R_drew)); exact Kd.R_mono HO783.out (fun _ hk => ⟨⟨hk.1.2.1, ⟨hk.2, hk.1.2.2⟩⟩, hk.1.1⟩)) hg hat)
       have n3_ := Aside0.mk (Kd.V_afterv (ok := (fun k_ => some k_ ≠ (.slice Ao21 t778.length co21 : Value).ownBlock ∧ some k_ ≠ (.slice Ao22 t781.length co22 : Value).ownBlock ∧ some k_ ≠ (.slice Ao31 y793.length co31 : Value).ownBlock ∧ some k_ ≠ (.slice Ao34 t796.length co34 : Value).ownBlock ∧ k_ ≠ gb777)) (by (with_reducible repeat (first | apply Kd.V_alloc | apply Kd.V_drewN | apply Kd.V_drew)); exact Kd.V_mono HO786.out (fun _ hk => ⟨⟨hk.1.1, ⟨hk.1.2.1, ⟨hk.1.2.2.2.1, ⟨hk.2, hk.1.2.2.2.2⟩⟩⟩⟩, hk.1.2.2.1⟩)) hg hat)
       have n4_ := Aside0.mk (Kd.R_after (ok := (fun k_ => some k_ ≠ (.slice Ao22 t781.length co22 : Value).ownBlock ∧ some k_ ≠ (.slice Ao34 t796.length co34 : Value).ownBlock ∧ k_ ≠ gb777)) (by (with_reducible repeat (first | apply Kd.R_alloc | apply Kd.R_drewN | apply Kd.R_drew)); exact Kd.R_mono HO795.out (fun _ hk => ⟨⟨hk.1.1, ⟨hk.2, hk.1.2.2⟩⟩, hk.1.2.1⟩)) hg hat)
       have n5_ := Aside0.mk (Kd.R_after (ok := (fun k_ => some k_ ≠ (.slice Ao22 t781.length co22 : Value).ownBlock ∧ some k_ ≠ (.slice Ao31 y793.length co31 : Value).ownBlock ∧ k_ ≠ gb777)) (by (with_reducible repeat (first | apply Kd.R_alloc | apply Kd.R_drewN | apply Kd.R_drew)); exact Kd.R_mono HO798.out (fun _ hk => ⟨⟨hk.1.1.1.2, ⟨hk.1.2, hk.2⟩⟩, hk.1.1.2⟩)) hg hat)
       have n6_ := Aside0.mk (hb)
       have n7_ := Aside0.mk (ho)
       clear BK777; clear HO780; clear HO783; clear HO786; clear HO795; clear HO798; clear HB; clear HO792
       have BK777 := n0_
       have HO780 := n1_
       have HO783 := n2_
       have HO786 := n3_
       have HO795 := n4_
       have HO798 := n5_
       have HB := n6_
       have HO801 := n7_
       clear n0_; clear n1_; clear n2_; clear n3_; clear n4_; clear n5_; clear n6_; clear n7_; clear ho; clear hb; clear hg; clear hat
       obtain ⟨Ao35, co35, eo35⟩ := Kd.R_slice HO801.out
       (first | subst eo35 | (injection eo35 with f1_ f2_ f3_; have f4_ := f1_.symm; have f5_ := f3_.symm; clear f1_ f2_ f3_; subst f4_; subst f5_))
       refine hK.out _ _ ⟨(blk_cell BK777.out 0).trans rfl, (blk_cell BK777.out 1).trans rfl⟩ (fun hHeld => ?_)
       clear hK; clear K
       refine norm_ (a' := ?_) ?_ ?_
       rotate_left
       ·show Act.put _ (some 33) _ = _
        simp only [Act.put, List.setIfInBounds_toArray, List.set_cons_zero, List.set_cons_succ, i64_w, i32_w]
        rfl
       refine one_ (i := 9) (N := some 34) #[true, true, true, true, true, true, true, true, true, true, false] rfl rfl (one_of HT_.out (by kernel_rfl)) (by decide) (fun K hK => ?_)
       refine goes_ Try.func37 (by kernel_rfl) rfl #[.int .i64 0, .int .i64 (wrap64 (Int.tmod a0 40)), .slice Ao21 t778.length co21, .slice Ao35 y799.length co35, .slice none 0 0] (by rfl) rfl rfl mt ?_
       refine (cons_Plan.calls k 0 (wrap64 (Int.tmod a0 40)) _ _ t778 _ _ y799 _ _ ([] : List Bool) t802 _ ?side1 ?side2 ?side3 ?side4 ?side5 ?side6 A11.out).mono ?_
       (case side1 => exact mC (Kd.R_reads' HO780.out).2.2)
       (case side2 => exact (Kd.R_reads' HO780.out).2.1)
       (case side3 => exact mC (Kd.R_reads' HO801.out).2.2)
       (case side4 => exact (Kd.R_reads' HO801.out).2.1)
       (case side5 => exact Kd.C_nil _ _)
       (case side6 => exact Nat.le_refl _)
       rintro e w36 ⟨v803, rfl, ho0, hb⟩
       refine ⟨_, rfl, ?_⟩
       have n0_ := Aside0.mk (Kd.R_below (mR HO780.out) hb)
       have n1_ := Aside0.mk (Kd.R_below (mR HO783.out) hb)
       have n2_ := Aside0.mk (Kd.V_below (mV HO786.out) hb)
       have n3_ := Aside0.mk (Kd.R_below (mR HO795.out) hb)
       have n4_ := Aside0.mk (Kd.R_below (mR HO798.out) hb)
       have n5_ := Aside0.mk (Kd.R_below (mR HO801.out) hb)
       have n6_ := Aside0.mk (Kd.V_lower (Kd.V_mono (ok' := fun k_ => some k_ ≠ (.slice Ao21 t778.length co21 : Value).ownBlock ∧ some k_ ≠ (.slice Ao22 t781.length co22 : Value).ownBlock ∧ some k_ ≠ (.slice Ao31 y793.length co31 : Value).ownBlock ∧ some k_ ≠ (.slice Ao34 t796.length co34 : Value).ownBlock ∧ some k_ ≠ (.slice Ao35 y799.length co35 : Value).ownBlock ∧ k_ ≠ gb777) ho0 (fun k_ hk_ => ⟨(Kd.fresh' (Kd.R_lt (mR HO780.out)) k_ hk_), (Kd.fresh' (Kd.R_lt (mR HO783.out)) k_ hk_), (Kd.fresh' (Kd.R_lt (mR HO795.out)) k_ hk_), (Kd.fresh' (Kd.R_lt (mR HO798.out)) k_ hk_), (Kd.fresh' (Kd.R_lt (mR HO801.out)) k_ hk_), (Kd.freshB (g := gb777) (o := .cells #[.int .i64 a3_0, .int .i64 a3_1] 52 (0, 0)) (mBK BK777.out) k_ hk_)⟩)) (below_size (mBs HB.out)))
       have n7_ := Aside0.mk (blk_below (g := gb777) (o := .cells #[.int .i64 a3_0, .int .i64 a3_1] 52 (0, 0)) (mBK BK777.out) hb)
       have n8_ := Aside0.mk (below_step (mBs HB.out) hb)
       clear HO780; clear HO783; clear HO786; clear HO795; clear HO798; clear HO801; clear BK777; clear HB
       have HO780 := n0_
       have HO783 := n1_
       have HO786 := n2_
       have HO795 := n3_
       have HO798 := n4_
       have HO801 := n5_
       have HO804 := n6_
       have BK777 := n7_
       have HB := n8_
       clear n0_; clear n1_; clear n2_; clear n3_; clear n4_; clear n5_; clear n6_; clear n7_; clear n8_
       (try clear hb); (try clear hb2); (try clear hk); (try clear hi); (try clear ho0)
       refine hK.out _ _ ⟨(blk_cell BK777.out 0).trans rfl, (blk_cell BK777.out 1).trans rfl⟩ (fun hHeld => ?_)
       clear hK; clear K
       refine norm_ (a' := ?_) ?_ ?_
       rotate_left
       ·show Act.put _ (some 34) _ = _
        simp only [Act.put, List.setIfInBounds_toArray, List.set_cons_zero, List.set_cons_succ, i64_w, i32_w]
        rfl
       refine plan_ [(10, 13)] ?_
       refine planP_ (v := ?_) (a' := ?_) rfl rfl (any_of HT_.out (by kernel_rfl)) (fun _ _ _ h => h) (Or.inl ⟨by rfl, ?_⟩) ?_ ?_; rotate_left; (intro w'; go_simp; with_reducible rfl); rotate_left; (simp only [Act.put, List.setIfInBounds_toArray, List.set_cons_zero, List.set_cons_succ, i64_w, i32_w]; rfl)
       refine planEnd_ ?_
       refine done_ (done_of HT_.out (by kernel_rfl)) ?_
       try go_wp2_with (first | ((with_reducible refine gate_callee (f := 35) rfl ?_); refine goesL_ (some 35) rfl rfl Try.func35 (by kernel_rfl) rfl #[] rfl mt ?_; (with_reducible refine (prebendlaw18_awake.calls k  true _ A12.out).mono ?_); rintro e w37 ⟨rfl, hb⟩; refine ⟨_, rfl, ?_⟩; have n0_ := Aside0.mk (Kd.R_below (mR HO780.out) hb); have n1_ := Aside0.mk (Kd.R_below (mR HO783.out) hb); have n2_ := Aside0.mk (Kd.V_below (mV HO786.out) hb); have n3_ := Aside0.mk (Kd.R_below (mR HO795.out) hb); have n4_ := Aside0.mk (Kd.R_below (mR HO798.out) hb); have n5_ := Aside0.mk (Kd.R_below (mR HO801.out) hb); have n6_ := Aside0.mk (Kd.V_below (mV HO804.out) hb); have n7_ := Aside0.mk (blk_below (g := gb777) (o := .cells #[.int .i64 a3_0, .int .i64 a3_1] 52 (0, 0)) (mBK BK777.out) hb); have n8_ := Aside0.mk (below_step (mBs HB.out) hb); clear HO780; clear HO783; clear HO786; clear HO795; clear HO798; clear HO801; clear HO804; clear BK777; clear HB; have HO780 := n0_; have HO783 := n1_; have HO786 := n2_; have HO795 := n3_; have HO798 := n4_; have HO801 := n5_; have HO804 := n6_; have BK777 := n7_; have HB := n8_; clear n0_ n1_ n2_ n3_ n4_ n5_ n6_ n7_ n8_; (try clear hb); (try clear hb2); (try clear hk); (try clear hi); obtain ⟨Ao38, co38, eo38⟩ := Kd.V_slice HO804.out; subst eo38; have q39 : ((t781.length : Int) : Int) ≤ ((t802.length : Int) : Int) := oda; obtain ⟨i039, hi039, _, hsz39, _⟩ := info_parts info3; have hroom39 : t802.length ≤ co38 := (Kd.V_reads' HO804.out).2.1; have hC39 : Kd.F (Kd.int .i64) _ _ Ao38 t802.length t802 := (Kd.V_at (base := w.heap.size) HO804.out).2.2; have hcut39 := cut_to (P := Try.prog) 55 3 .i64 Try.underlying55 hi039 Ao38 t802.length co38 (t781.length : Int) (oda) q39 hroom39; have hr39 := Kd.F_take (m := ((t781.length : Int) : Int).toNat) hC39 (by omega); have hy39 : y806.length = ((t781.length : Int) : Int).toNat := (by rw [Ny806.out, List.length_take]; omega); rw [← Ny806.out] at hr39; rw [← hy39] at hcut39; have HO810 := Aside0.mk (show Kd.V (Kd.int .i64) 3 _ w.heap.size _ (.slice Ao38 y806.length co38) y806 from Kd.V_mk (by omega) hr39); have HC810 := Aside0.mk (show y806.length ≤ co38 from by omega); clear hr39 hC39 hroom39 hi039 hsz39; have KY39 := Aside0.mk hy39; clear hy39; replace q39 := eq_true q39; obtain ⟨Ao40, co40, eo40⟩ := Kd.V_slice HO786.out; subst eo40) | (go_at_call 36; (with_reducible refine (prebendref01_Ints.calls k _ _ y806 _ _ t784 t811 _ ?side1 ?side2 ?side3 ?side4 A17.out).mono ?_); (case side1 => exact mC (Kd.V_reads' HO810.out).2.2); (case side2 => exact (Kd.V_reads' HO810.out).2.1); (case side3 => exact mC (Kd.V_reads' HO786.out).2.2); (case side4 => exact (Kd.V_reads' HO786.out).2.1); rintro e w' ⟨rfl, ⟨nd, rfl⟩⟩))
       go_ret
       exact ⟨by first | rfl | (simp [errW_none, errW_some] <;> rfl) | (simp [*, errW_none, errW_some] <;> rfl), by repeat (first | (with_reducible first | exact HB.out | apply below_alloc | apply pw_below_drewN | apply below_drew1 | refine below_set ?_ GE777.out) | exact HB.out)⟩
      ·rw [if_neg c16] at H
       exact absurd H (by simp)
     ·rw [if_neg c15] at H
      exact absurd H (by simp)
    ·rw [if_neg c14] at H
     have c14b0 : ((t802.length : Int) == (wrap64 ((t781.length : Int) + 1))) = false := beq_eq_false_iff_ne.mpr c14
     have c14b1 : ((t802.length : Int) != (wrap64 ((t781.length : Int) + 1))) = true := bne_iff_ne.mpr c14
     obtain rfl := Option.some.inj H
     go_enter Try.func12, Try.ntmps12
     try go_wp2_with (first | ((with_reducible refine gate_dst (N := 7) rfl ?_); (try (refine gate_guard (by rfl) ?_; dsimp only)); refine box_event ?hg (N := 7) ?hd (cs := #[.int .i64 a3_0, .int .i64 a3_1]) (t := 52) ?hr ?_; (case hd => rfl); (case hg => rfl); (case hr => first | (go_simp; done) | (go_simp; rfl)); intro gb777 hg w41 hbox hb; have n0_ := Aside0.mk (below_step (mB HB.out) hb); have n1_ := Aside0.mk (hbox); have n2_ := Aside0.mk ((by rw [hg]; exact (below_size (mB HB.out)) : w.heap.size ≤ gb777)); have n3_ := Aside0.mk ((by rw [hg]; exact (below_size (mB HB.out)) : w.heap.size ≤ gb777)); clear HB; have HB := n0_; have BK777 := n1_; have GW777 := n2_; have GE777 := n3_; clear n0_ n1_ n2_ n3_; clear hb hbox hg) | ((with_reducible refine gate_callee (f := 25) rfl ?_); refine goesL_ (some 18) rfl rfl Try.func25 (by kernel_rfl) rfl #[.slice A1 l1.length c1] rfl mt ?_; (with_reducible refine (prebendref17_Busy.calls k _ _ l1 t778 _ ?side1 ?side2 A5.out).mono ?_); (case side1 => repeat (first | exact (Kd.C_below HR1.out HB.out) | (with_reducible refine Kd.C_alloc ?_ _) | (with_reducible refine Kd.C_drewN ?_ _) | (with_reducible refine Kd.C_drew ?_))); (case side2 => exact HC1.out); rintro e w42 ⟨v779, rfl, ho0, hb⟩; refine ⟨_, rfl, ?_⟩; have n0_ := Aside0.mk (Kd.R_lower ho0 (below_size (mBs HB.out))); have n1_ := Aside0.mk (blk_below (g := gb777) (o := .cells #[.int .i64 a3_0, .int .i64 a3_1] 52 (0, 0)) (mBK BK777.out) hb); have n2_ := Aside0.mk (below_step (mBs HB.out) hb); clear BK777; clear HB; have HO780 := n0_; have BK777 := n1_; have HB := n2_; clear n0_ n1_ n2_; (try clear hb); (try clear hb2); (try clear hk); (try clear hi); (try clear ho0)) | ((with_reducible refine gate_callee (f := 32) rfl ?_); refine goesL_ (some 20) rfl rfl Try.func32 (by kernel_rfl) rfl #[.slice A2 l2.length c2] rfl mt ?_; (with_reducible refine (prebendref18_Asks.calls k _ _ l2 t781 _ ?side1 ?side2 A6.out).mono ?_); (case side1 => repeat (first | exact (Kd.C_below HR2.out HB.out) | (with_reducible refine Kd.C_alloc ?_ _) | (with_reducible refine Kd.C_drewN ?_ _) | (with_reducible refine Kd.C_drew ?_))); (case side2 => exact HC2.out); rintro e w43 ⟨v782, rfl, ho0, hb⟩; refine ⟨_, rfl, ?_⟩; have n0_ := Aside0.mk (Kd.R_below (mR HO780.out) hb); have n1_ := Aside0.mk (Kd.R_lower (Kd.R_newB ho0 (g := gb777) (o := .cells #[.int .i64 a3_0, .int .i64 a3_1] 52 (0, 0)) (mBK BK777.out)) (below_size (mBs HB.out))); have n2_ := Aside0.mk (blk_below (g := gb777) (o := .cells #[.int .i64 a3_0, .int .i64 a3_1] 52 (0, 0)) (mBK BK777.out) hb); have n3_ := Aside0.mk (below_step (mBs HB.out) hb); clear HO780; clear BK777; clear HB; have HO780 := n0_; have HO783 := n1_; have BK777 := n2_; have HB := n3_; clear n0_ n1_ n2_ n3_; (try clear hb); (try clear hb2); (try clear hk); (try clear hi); (try clear ho0); obtain ⟨Ao44, co44, eo44⟩ := Kd.R_slice HO780.out; subst eo44; obtain ⟨Ao45, co45, eo45⟩ := Kd.R_slice HO783.out; subst eo45) | ((with_reducible refine gate_callee (f := 37) rfl ?_); refine goesL_ (some 24) rfl rfl Try.func37 (by kernel_rfl) rfl #[.int .i64 0, .int .i64 (wrap64 (Int.tmod a0 40)), .slice Ao44 t778.length co44, .slice Ao45 t781.length co45, .slice none 0 0] rfl mt ?_; (refine (cons_Plan.calls k 0 (wrap64 (Int.tmod a0 40)) _ _ t778 _ _ t781 _ _ ([] : List Bool) t784 _ ?side1 ?side2 ?side3 ?side4 ?side5 ?side6 A7.out).mono ?_); (case side1 => exact mC (Kd.R_reads' HO780.out).2.2); (case side2 => exact (Kd.R_reads' HO780.out).2.1); (case side3 => exact mC (Kd.R_reads' HO783.out).2.2); (case side4 => exact (Kd.R_reads' HO783.out).2.1); (case side5 => exact Kd.C_nil _ _); (case side6 => exact Nat.le_refl _); rintro e w46 ⟨v785, rfl, ho0, hb⟩; refine ⟨_, rfl, ?_⟩; have n0_ := Aside0.mk (Kd.R_below (mR HO780.out) hb); have n1_ := Aside0.mk (Kd.R_below (mR HO783.out) hb); have n2_ := Aside0.mk (Kd.V_lower (Kd.V_mono (ok' := fun k_ => some k_ ≠ (.slice Ao44 t778.length co44 : Value).ownBlock ∧ some k_ ≠ (.slice Ao45 t781.length co45 : Value).ownBlock ∧ k_ ≠ gb777) ho0 (fun k_ hk_ => ⟨(Kd.fresh' (Kd.R_lt (mR HO780.out)) k_ hk_), (Kd.fresh' (Kd.R_lt (mR HO783.out)) k_ hk_), (Kd.freshB (g := gb777) (o := .cells #[.int .i64 a3_0, .int .i64 a3_1] 52 (0, 0)) (mBK BK777.out) k_ hk_)⟩)) (below_size (mBs HB.out))); have n3_ := Aside0.mk (blk_below (g := gb777) (o := .cells #[.int .i64 a3_0, .int .i64 a3_1] 52 (0, 0)) (mBK BK777.out) hb); have n4_ := Aside0.mk (below_step (mBs HB.out) hb); clear HO780; clear HO783; clear BK777; clear HB; have HO780 := n0_; have HO783 := n1_; have HO786 := n2_; have BK777 := n3_; have HB := n4_; clear n0_ n1_ n2_ n3_ n4_; (try clear hb); (try clear hb2); (try clear hk); (try clear hi); (try clear ho0)))
     have n0_ := Aside0.mk (Kd.R_drew HO780.out)
     have n1_ := Aside0.mk (Kd.R_drew HO783.out)
     have n2_ := Aside0.mk (Kd.V_drew HO786.out)
     have n3_ := Aside0.mk (blk_drew BK777.out)
     have n4_ := Aside0.mk (below_drew1 HB.out)
     clear HO780; clear HO783; clear HO786; clear BK777; clear HB
     have HO780 := n0_
     have HO783 := n1_
     have HO786 := n2_
     have BK777 := n3_
     have HB := n4_
     clear n0_; clear n1_; clear n2_; clear n3_; clear n4_
     refine start_ (n := 11) (S := fun w' => w'.cell? ⟨gb777, 0, none⟩ = some (.int .i64 a3_0) ∧ w'.cell? ⟨gb777, 1, none⟩ = some (.int .i64 a3_1)) (ds := []) #[false, false, false, false, false, false, false, false, false, false, false] (by kernel_rfl) rfl rfl ⟨(blk_cell BK777.out 0).trans rfl, (blk_cell BK777.out 1).trans rfl⟩ (fun hHeld => ?_); refine with_tabW prebendlaw18_ConsLater.tab4 prebendlaw18_ConsLater.bits4 (fun HT_ HW_ => ?_)
     generalize w46.drew = w47 at HO780 HO783 HO786 BK777 HB hHeld ⊢
     refine plan_ [(0, 25), (1, 26), (3, 28)] ?_
     iterate 3 (refine planP_ (v := ?_) (a' := ?_) rfl rfl (any_of HT_.out (by kernel_rfl)) (fun _ _ _ h => h) (Or.inl ⟨by rfl, ?_⟩) ?_ ?_; rotate_left; (intro w'; go_simp; with_reducible rfl); rotate_left; (simp only [Act.put, List.setIfInBounds_toArray, List.set_cons_zero, List.set_cons_succ, i64_w, i32_w]; rfl))
     refine planEnd_ ?_
     refine plan_ [(5, 30)] ?_
     refine planT_ (v := ?_) (a' := ?_) rfl rfl (take_ofW HT_.out HW_.out (by kernel_rfl)) (fun _ _ _ h => h) (Or.inl ⟨by rfl, ?_⟩) hHeld ?_ ?_; rotate_left; (rintro w' ⟨s0, s1⟩; go_simp; with_reducible rfl); rotate_left; (simp only [Act.put, List.setIfInBounds_toArray, List.set_cons_zero, List.set_cons_succ, i64_w, i32_w]; rfl)
     refine planEnd_ ?_
     refine join_ (σ := Value × Value × Value) 4 #[true, true, true, true, true, true, true, false, false, false, false] (fun s_ => [(27, s_.1), (29, s_.2.1), (31, s_.2.2)]) (fun s_ w' => (w'.cell? ⟨gb777, 0, none⟩ = some (.int .i64 a3_0) ∧ w'.cell? ⟨gb777, 1, none⟩ = some (.int .i64 a3_1)) ∧ (Kd.R k38 38 w' w.heap.size (fun _ => True) (.slice Ao44 t778.length co44) t778) ∧ (Kd.R k52 52 w' w.heap.size (fun k_ => some k_ ≠ (s_.2.1 : Value).ownBlock ∧ some k_ ≠ (s_.2.2 : Value).ownBlock ∧ k_ ≠ gb777) (.slice Ao45 t781.length co45) t781) ∧ (Kd.V (Kd.int .i64) 3 w' w.heap.size (fun k_ => some k_ ≠ (.slice Ao44 t778.length co44 : Value).ownBlock ∧ some k_ ≠ (.slice Ao45 t781.length co45 : Value).ownBlock ∧ some k_ ≠ (s_.2.1 : Value).ownBlock ∧ some k_ ≠ (s_.2.2 : Value).ownBlock ∧ k_ ≠ gb777) v785 t784) ∧ (Kd.R k52 52 w' w.heap.size (fun k_ => some k_ ≠ (.slice Ao45 t781.length co45 : Value).ownBlock ∧ some k_ ≠ (s_.2.2 : Value).ownBlock ∧ k_ ≠ gb777) s_.2.1 y790) ∧ (Kd.R k52 52 w' w.heap.size (fun k_ => some k_ ≠ (.slice Ao45 t781.length co45 : Value).ownBlock ∧ some k_ ≠ (s_.2.1 : Value).ownBlock ∧ k_ ≠ gb777) s_.2.2 y793) ∧ (w'.heap[gb777]? = some (.cells #[.int .i64 a3_0, .int .i64 a3_1] 52 (0, 0))) ∧ (Below w.heap.size w w')) ?_ ?_
     rotate_left
     ·intro hCont
      refine two_ (i := 2) (j := 6) (Ni := some 27) (Nj := some 31) #[true, true, true, true, false, true, false, false, false, false, false] #[true, true, false, true, false, true, true, false, false, false, false] rfl rfl rfl rfl (two_of HT_.out (by kernel_rfl)) (by decide) (by decide) (fun K hK => ?_) (fun K hK => ?_)
      ·skip
       refine Kd.R_lit_step k52 _ 52 ?hg (N := 27) ?hd (xs := ([] : List (S52))) (inner := []) (ok := fun _ => True) (okp := fun _ => True) ?hr ?hp (fun _ hk => hk) trivial (Below.refl _ _) (Nat.le_refl _) (by simp) ?_; (case hd => rfl); (case hg => rfl); (case hr => first | (go_simp; done) | (go_simp; rfl)); (case hp => exact (Reps.none _ _))
       intro v788 w48 ho49 hb hg_ hnew_
       clear hg_; clear hnew_
       (first | rw [← Ny787.out] at ho49 | (simp only [Int.reduceToNat] at ho49; rw [← Ny787.out] at ho49))
       have n0_ := Aside0.mk (Kd.R_below (mR HO780.out) hb)
       have n1_ := Aside0.mk (Kd.R_elder' (mR HO783.out) (Kd.R_base ho49) hb)
       have n2_ := Aside0.mk (Kd.V_elder' (mV HO786.out) (Kd.R_base ho49) hb)
       have n3_ := Aside0.mk (Kd.R_lower (Kd.R_newB (Kd.R_new' ho49 (Kd.R_lt (mR HO783.out))) (g := gb777) (o := .cells #[.int .i64 a3_0, .int .i64 a3_1] 52 (0, 0)) (mBK BK777.out)) (below_size (mBs HB.out)))
       have n4_ := Aside0.mk (blk_below (g := gb777) (o := .cells #[.int .i64 a3_0, .int .i64 a3_1] 52 (0, 0)) (mBK BK777.out) hb)
       have n5_ := Aside0.mk (below_step (mBs HB.out) hb)
       clear HO780; clear HO783; clear HO786; clear BK777; clear HB
       have HO780 := n0_
       have HO783 := n1_
       have HO786 := n2_
       have HO789 := n3_
       have BK777 := n4_
       have HB := n5_
       clear n0_; clear n1_; clear n2_; clear n3_; clear n4_; clear n5_; clear hb; clear ho49
       refine hK.out _ _ ⟨(blk_cell BK777.out 0).trans rfl, (blk_cell BK777.out 1).trans rfl⟩ (fun hHeld => ?_)
       clear hK; clear K
       refine norm_ (a' := ?_) ?_ ?_
       rotate_left
       ·show Act.put _ (some 27) _ = _
        simp only [Act.put, List.setIfInBounds_toArray, List.set_cons_zero, List.set_cons_succ, i64_w, i32_w]
        rfl
       refine two_ (i := 4) (j := 6) (Ni := some 29) (Nj := some 31) #[true, true, true, true, true, true, false, false, false, false, false] #[true, true, true, true, false, true, true, false, false, false, false] rfl rfl rfl rfl (two_of HT_.out (by kernel_rfl)) (by decide) (by decide) (fun K hK => ?_) (fun K hK => ?_)
       ·skip
        refine Kd.R_append_rows_step k52 (w0 := w) w.heap.size (by rfl) (.tmp 27) (.tmp 28) 44 52 (.agg #[(.int .i64 0), (.int .i64 0)]) 16 rfl Try.underlying44 info52 rfl (by decide) (by omega) v788 y787 t781 _ _ _ (fun k_ => some k_ ≠ (.slice Ao45 t781.length co45 : Value).ownBlock ∧ k_ ≠ gb777) (fun _ => False) rfl rfl ?aO ?aR (fun _ _ h => h) (fun _ h => h.elim) ?aF ?aB ?aS ?aL ?_
        (case aR => repeat (first | exact (Kd.R_reads' HO783.out).2.2 | (with_reducible refine Kd.C_alloc ?_ _) | (with_reducible refine Kd.C_drewN ?_ _) | (with_reducible refine Kd.C_drew ?_)))
        (case aB => exact (mBs HB.out))
        (case aF => exact (fun k_ hk => ⟨Kd.fresh' (Kd.R_lt (mR HO783.out)) k_ hk, Kd.freshB (g := gb777) (o := .cells #[.int .i64 a3_0, .int .i64 a3_1] 52 (0, 0)) (mBK BK777.out) k_ hk⟩))
        (case aO => exact (by (with_reducible repeat (first | apply Kd.R_alloc | apply Kd.R_drewN | apply Kd.R_drew)); exact Kd.R_mono HO789.out (fun _ hk => ⟨hk.1.2, hk.2⟩)))
        (case aS => exact (below_size (mBs HB.out)))
        (case aL => have := LMc8.out; omega)
        intro v791 w50 ho hb hg hat
        rw [← Ny790.out] at ho
        have n0_ := Aside0.mk (blk_grown (g := gb777) (o := .cells #[.int .i64 a3_0, .int .i64 a3_1] 52 (0, 0)) (mBK BK777.out) hg (Kd.R_away HO789.out (fun _ hk => hk.2)))
        have n1_ := Aside0.mk (Kd.R_over' (mR HO780.out) (Kd.R_typed (mR HO789.out)) (by decide) hg)
        have n2_ := Aside0.mk (Kd.R_after (ok := (fun k_ => k_ ≠ gb777)) (by (with_reducible repeat (first | apply Kd.R_alloc | apply Kd.R_drewN | apply Kd.R_drew)); exact Kd.R_mono HO783.out (fun _ hk => ⟨hk.1.2, hk.2⟩)) hg hat)
        have n3_ := Aside0.mk (Kd.V_afterv (ok := (fun k_ => some k_ ≠ (.slice Ao44 t778.length co44 : Value).ownBlock ∧ some k_ ≠ (.slice Ao45 t781.length co45 : Value).ownBlock ∧ k_ ≠ gb777)) (mV HO786.out) hg hat)
        have n4_ := Aside0.mk (hb)
        have n5_ := Aside0.mk (ho)
        clear BK777; clear HO780; clear HO783; clear HO786; clear HB; clear HO789
        have BK777 := n0_
        have HO780 := n1_
        have HO783 := n2_
        have HO786 := n3_
        have HB := n4_
        have HO792 := n5_
        clear n0_; clear n1_; clear n2_; clear n3_; clear n4_; clear n5_; clear ho; clear hb; clear hg; clear hat
        refine hK.out _ _ ⟨(blk_cell BK777.out 0).trans rfl, (blk_cell BK777.out 1).trans rfl⟩ (fun hHeld => ?_)
        clear hK; clear K
        refine norm_ (a' := ?_) ?_ ?_
        rotate_left
        ·show Act.put _ (some 29) _ = _
         simp only [Act.put, List.setIfInBounds_toArray, List.set_cons_zero, List.set_cons_succ, i64_w, i32_w]
         rfl
        refine one_ (i := 6) (N := some 31) #[true, true, true, true, true, true, true, false, false, false, false] rfl rfl (one_of HT_.out (by kernel_rfl)) (by decide) (fun K hK => ?_)
        refine Kd.R_lit_step k52 _ 52 ?hg (N := 31) ?hd (xs := ([(⟨a3_0, a3_1⟩ : S52)] : List (S52))) (inner := [.int .i64 a3_0, .int .i64 a3_1]) (ok := fun _ => True) (okp := fun _ => True) ?hr ?hp (fun _ hk => hk) trivial (Below.refl _ _) (Nat.le_refl _) (by simp) ?_; (case hd => rfl); (case hg => rfl); (case hr => first | (go_simp; done) | (go_simp; rfl)); (case hp => exact (Reps.c2 (show Kd.M k52 _ _ _ (⟨a3_0, a3_1⟩ : S52) [.int .i64 a3_0, .int .i64 a3_1] from (k52_mkM _ _ _ (⟨a3_0, a3_1⟩ : S52) )) (Reps.none _ _)))
        intro v794 w51 ho52 hb hg_ hnew_
        clear hg_; clear hnew_
        (first | rw [← Ny793.out] at ho52 | (simp only [Int.reduceToNat] at ho52; rw [← Ny793.out] at ho52))
        have n0_ := Aside0.mk (Kd.R_below (mR HO780.out) hb)
        have n1_ := Aside0.mk (Kd.R_elder' (mR HO783.out) (Kd.R_base ho52) hb)
        have n2_ := Aside0.mk (Kd.V_elder' (mV HO786.out) (Kd.R_base ho52) hb)
        have n3_ := Aside0.mk (Kd.R_elder' (mR HO792.out) (Kd.R_base ho52) hb)
        have n4_ := Aside0.mk (Kd.R_lower (Kd.R_newB (Kd.R_new' (Kd.R_new' ho52 (Kd.R_lt (mR HO783.out))) (Kd.R_lt (mR HO792.out))) (g := gb777) (o := .cells #[.int .i64 a3_0, .int .i64 a3_1] 52 (0, 0)) (mBK BK777.out)) (below_size (mBs HB.out)))
        have n5_ := Aside0.mk (blk_below (g := gb777) (o := .cells #[.int .i64 a3_0, .int .i64 a3_1] 52 (0, 0)) (mBK BK777.out) hb)
        have n6_ := Aside0.mk (below_step (mBs HB.out) hb)
        clear HO780; clear HO783; clear HO786; clear HO792; clear BK777; clear HB
        have HO780 := n0_
        have HO783 := n1_
        have HO786 := n2_
        have HO792 := n3_
        have HO795 := n4_
        have BK777 := n5_
        have HB := n6_
        clear n0_; clear n1_; clear n2_; clear n3_; clear n4_; clear n5_; clear n6_; clear hb; clear ho52
        refine hK.out _ _ ⟨(blk_cell BK777.out 0).trans rfl, (blk_cell BK777.out 1).trans rfl⟩ (fun hHeld => ?_)
        clear hK; clear K
        refine norm_ (a' := ?_) ?_ ?_
        rotate_left
        ·show Act.put _ (some 31) _ = _
         simp only [Act.put, List.setIfInBounds_toArray, List.set_cons_zero, List.set_cons_succ, i64_w, i32_w]
         rfl
        exact norm_ (by simp only [putAll, Act.put, List.setIfInBounds_toArray, List.set_cons_zero, List.set_cons_succ]) (hCont (v788, v791, v794) _ ⟨hHeld, (mR HO780.out), (by (with_reducible repeat (first | apply Kd.R_alloc | apply Kd.R_drewN | apply Kd.R_drew)); exact Kd.R_mono HO783.out (fun _ hk => ⟨hk.1.2, ⟨hk.2, hk.1.1⟩⟩)), (by (with_reducible repeat (first | apply Kd.V_alloc | apply Kd.V_drewN | apply Kd.V_drew)); exact Kd.V_mono HO786.out (fun _ hk => ⟨hk.1.1.1, ⟨hk.1.1.2.1, ⟨hk.1.2, ⟨hk.2, hk.1.1.2.2⟩⟩⟩⟩)), (by (with_reducible repeat (first | apply Kd.R_alloc | apply Kd.R_drewN | apply Kd.R_drew)); exact Kd.R_mono HO792.out (fun _ hk => ⟨hk.1.1, ⟨hk.2, hk.1.2⟩⟩)), (by (with_reducible repeat (first | apply Kd.R_alloc | apply Kd.R_drewN | apply Kd.R_drew)); exact Kd.R_mono HO795.out (fun _ hk => ⟨hk.1.1.2, ⟨hk.1.2, hk.2⟩⟩)), (mBK BK777.out), (mBs HB.out)⟩)
       ·skip
        refine Kd.R_lit_step k52 _ 52 ?hg (N := 31) ?hd (xs := ([(⟨a3_0, a3_1⟩ : S52)] : List (S52))) (inner := [.int .i64 a3_0, .int .i64 a3_1]) (ok := fun _ => True) (okp := fun _ => True) ?hr ?hp (fun _ hk => hk) trivial (Below.refl _ _) (Nat.le_refl _) (by simp) ?_; (case hd => rfl); (case hg => rfl); (case hr => first | (go_simp; done) | (go_simp; rfl)); (case hp => exact (Reps.c2 (show Kd.M k52 _ _ _ (⟨a3_0, a3_1⟩ : S52) [.int .i64 a3_0, .int .i64 a3_1] from (k52_mkM _ _ _ (⟨a3_0, a3_1⟩ : S52) )) (Reps.none _ _)))
        intro v794 w50 ho51 hb hg_ hnew_
        clear hg_; clear hnew_
        (first | rw [← Ny793.out] at ho51 | (simp only [Int.reduceToNat] at ho51; rw [← Ny793.out] at ho51))
        have n0_ := Aside0.mk (Kd.R_below (mR HO780.out) hb)
        have n1_ := Aside0.mk (Kd.R_elder' (mR HO783.out) (Kd.R_base ho51) hb)
        have n2_ := Aside0.mk (Kd.V_elder' (mV HO786.out) (Kd.R_base ho51) hb)
        have n3_ := Aside0.mk (Kd.R_elder' (mR HO789.out) (Kd.R_base ho51) hb)
        have n4_ := Aside0.mk (Kd.R_lower (Kd.R_newB (Kd.R_new' (Kd.R_new' ho51 (Kd.R_lt (mR HO783.out))) (Kd.R_lt (mR HO789.out))) (g := gb777) (o := .cells #[.int .i64 a3_0, .int .i64 a3_1] 52 (0, 0)) (mBK BK777.out)) (below_size (mBs HB.out)))
        have n5_ := Aside0.mk (blk_below (g := gb777) (o := .cells #[.int .i64 a3_0, .int .i64 a3_1] 52 (0, 0)) (mBK BK777.out) hb)
        have n6_ := Aside0.mk (below_step (mBs HB.out) hb)
        clear HO780; clear HO783; clear HO786; clear HO789; clear BK777; clear HB
        have HO780 := n0_
        have HO783 := n1_
        have HO786 := n2_
        have HO789 := n3_
        have HO795 := n4_
        have BK777 := n5_
        have HB := n6_
        clear n0_; clear n1_; clear n2_; clear n3_; clear n4_; clear n5_; clear n6_; clear hb; clear ho51
        refine hK.out _ _ ⟨(blk_cell BK777.out 0).trans rfl, (blk_cell BK777.out 1).trans rfl⟩ (fun hHeld => ?_)
        clear hK; clear K
        refine norm_ (a' := ?_) ?_ ?_
        rotate_left
        ·show Act.put _ (some 31) _ = _
         simp only [Act.put, List.setIfInBounds_toArray, List.set_cons_zero, List.set_cons_succ, i64_w, i32_w]
         rfl
        refine one_ (i := 4) (N := some 29) #[true, true, true, true, true, true, true, false, false, false, false] rfl rfl (one_of HT_.out (by kernel_rfl)) (by decide) (fun K hK => ?_)
        refine Kd.R_append_rows_step k52 (w0 := w) w.heap.size (by rfl) (.tmp 27) (.tmp 28) 44 52 (.agg #[(.int .i64 0), (.int .i64 0)]) 16 rfl Try.underlying44 info52 rfl (by decide) (by omega) v788 y787 t781 _ _ _ (fun k_ => some k_ ≠ (.slice Ao45 t781.length co45 : Value).ownBlock ∧ some k_ ≠ (v794 : Value).ownBlock ∧ k_ ≠ gb777) (fun _ => False) rfl rfl ?aO ?aR (fun _ _ h => h) (fun _ h => h.elim) ?aF ?aB ?aS ?aL ?_
        (case aR => repeat (first | exact (Kd.R_reads' HO783.out).2.2 | (with_reducible refine Kd.C_alloc ?_ _) | (with_reducible refine Kd.C_drewN ?_ _) | (with_reducible refine Kd.C_drew ?_)))
        (case aB => exact (mBs HB.out))
        (case aF => exact (fun k_ hk => ⟨Kd.fresh' (Kd.R_lt (mR HO783.out)) k_ hk, Kd.fresh' (Kd.R_lt (mR HO795.out)) k_ hk, Kd.freshB (g := gb777) (o := .cells #[.int .i64 a3_0, .int .i64 a3_1] 52 (0, 0)) (mBK BK777.out) k_ hk⟩))
        (case aO => exact (by (with_reducible repeat (first | apply Kd.R_alloc | apply Kd.R_drewN | apply Kd.R_drew)); exact Kd.R_mono HO789.out (fun _ hk => ⟨hk.1.1.2, ⟨hk.2, hk.1.2⟩⟩)))
        (case aS => exact (below_size (mBs HB.out)))
        (case aL => have := LMc8.out; omega)
        intro v791 w52 ho hb hg hat
        rw [← Ny790.out] at ho
        have n0_ := Aside0.mk (blk_grown (g := gb777) (o := .cells #[.int .i64 a3_0, .int .i64 a3_1] 52 (0, 0)) (mBK BK777.out) hg (Kd.R_away HO789.out (fun _ hk => hk.1.2)))
        have n1_ := Aside0.mk (Kd.R_over' (mR HO780.out) (Kd.R_typed (mR HO789.out)) (by decide) hg)
        have n2_ := Aside0.mk (Kd.R_after (ok := (fun k_ => some k_ ≠ (v794 : Value).ownBlock ∧ k_ ≠ gb777)) (by (with_reducible repeat (first | apply Kd.R_alloc | apply Kd.R_drewN | apply Kd.R_drew)); exact Kd.R_mono HO783.out (fun _ hk => ⟨⟨hk.2, hk.1.1.2⟩, hk.1.2⟩)) hg hat)
        have n3_ := Aside0.mk (Kd.V_afterv (ok := (fun k_ => some k_ ≠ (.slice Ao44 t778.length co44 : Value).ownBlock ∧ some k_ ≠ (.slice Ao45 t781.length co45 : Value).ownBlock ∧ some k_ ≠ (v794 : Value).ownBlock ∧ k_ ≠ gb777)) (by (with_reducible repeat (first | apply Kd.V_alloc | apply Kd.V_drewN | apply Kd.V_drew)); exact Kd.V_mono HO786.out (fun _ hk => ⟨⟨hk.1.1.1, ⟨hk.1.1.2.1, ⟨hk.2, hk.1.1.2.2⟩⟩⟩, hk.1.2⟩)) hg hat)
        have n4_ := Aside0.mk (Kd.R_after (ok := (fun k_ => some k_ ≠ (.slice Ao45 t781.length co45 : Value).ownBlock ∧ k_ ≠ gb777)) (by (with_reducible repeat (first | apply Kd.R_alloc | apply Kd.R_drewN | apply Kd.R_drew)); exact Kd.R_mono HO795.out (fun _ hk => ⟨⟨hk.1.1.2, hk.2⟩, hk.1.2⟩)) hg hat)
        have n5_ := Aside0.mk (hb)
        have n6_ := Aside0.mk (ho)
        clear BK777; clear HO780; clear HO783; clear HO786; clear HO795; clear HB; clear HO789
        have BK777 := n0_
        have HO780 := n1_
        have HO783 := n2_
        have HO786 := n3_
        have HO795 := n4_
        have HB := n5_
        have HO792 := n6_
        clear n0_; clear n1_; clear n2_; clear n3_; clear n4_; clear n5_; clear n6_; clear ho; clear hb; clear hg; clear hat
        refine hK.out _ _ ⟨(blk_cell BK777.out 0).trans rfl, (blk_cell BK777.out 1).trans rfl⟩ (fun hHeld => ?_)
        clear hK; clear K
        refine norm_ (a' := ?_) ?_ ?_
        rotate_left
        ·show Act.put _ (some 29) _ = _
         simp only [Act.put, List.setIfInBounds_toArray, List.set_cons_zero, List.set_cons_succ, i64_w, i32_w]
         rfl
        exact norm_ (by simp only [putAll, Act.put, List.setIfInBounds_toArray, List.set_cons_zero, List.set_cons_succ]) (hCont (v788, v791, v794) _ ⟨hHeld, (mR HO780.out), (by (with_reducible repeat (first | apply Kd.R_alloc | apply Kd.R_drewN | apply Kd.R_drew)); exact Kd.R_mono HO783.out (fun _ hk => ⟨hk.2, ⟨hk.1.1, hk.1.2⟩⟩)), (by (with_reducible repeat (first | apply Kd.V_alloc | apply Kd.V_drewN | apply Kd.V_drew)); exact Kd.V_mono HO786.out (fun _ hk => ⟨hk.1.1, ⟨hk.1.2.1, ⟨hk.2, ⟨hk.1.2.2.1, hk.1.2.2.2⟩⟩⟩⟩)), (mR HO792.out), (by (with_reducible repeat (first | apply Kd.R_alloc | apply Kd.R_drewN | apply Kd.R_drew)); exact Kd.R_mono HO795.out (fun _ hk => ⟨hk.1.1, ⟨hk.2, hk.1.2⟩⟩)), (mBK BK777.out), (mBs HB.out)⟩)
      ·skip
       refine Kd.R_lit_step k52 _ 52 ?hg (N := 31) ?hd (xs := ([(⟨a3_0, a3_1⟩ : S52)] : List (S52))) (inner := [.int .i64 a3_0, .int .i64 a3_1]) (ok := fun _ => True) (okp := fun _ => True) ?hr ?hp (fun _ hk => hk) trivial (Below.refl _ _) (Nat.le_refl _) (by simp) ?_; (case hd => rfl); (case hg => rfl); (case hr => first | (go_simp; done) | (go_simp; rfl)); (case hp => exact (Reps.c2 (show Kd.M k52 _ _ _ (⟨a3_0, a3_1⟩ : S52) [.int .i64 a3_0, .int .i64 a3_1] from (k52_mkM _ _ _ (⟨a3_0, a3_1⟩ : S52) )) (Reps.none _ _)))
       intro v794 w48 ho49 hb hg_ hnew_
       clear hg_; clear hnew_
       (first | rw [← Ny793.out] at ho49 | (simp only [Int.reduceToNat] at ho49; rw [← Ny793.out] at ho49))
       have n0_ := Aside0.mk (Kd.R_below (mR HO780.out) hb)
       have n1_ := Aside0.mk (Kd.R_elder' (mR HO783.out) (Kd.R_base ho49) hb)
       have n2_ := Aside0.mk (Kd.V_elder' (mV HO786.out) (Kd.R_base ho49) hb)
       have n3_ := Aside0.mk (Kd.R_lower (Kd.R_newB (Kd.R_new' ho49 (Kd.R_lt (mR HO783.out))) (g := gb777) (o := .cells #[.int .i64 a3_0, .int .i64 a3_1] 52 (0, 0)) (mBK BK777.out)) (below_size (mBs HB.out)))
       have n4_ := Aside0.mk (blk_below (g := gb777) (o := .cells #[.int .i64 a3_0, .int .i64 a3_1] 52 (0, 0)) (mBK BK777.out) hb)
       have n5_ := Aside0.mk (below_step (mBs HB.out) hb)
       clear HO780; clear HO783; clear HO786; clear BK777; clear HB
       have HO780 := n0_
       have HO783 := n1_
       have HO786 := n2_
       have HO795 := n3_
       have BK777 := n4_
       have HB := n5_
       clear n0_; clear n1_; clear n2_; clear n3_; clear n4_; clear n5_; clear hb; clear ho49
       refine hK.out _ _ ⟨(blk_cell BK777.out 0).trans rfl, (blk_cell BK777.out 1).trans rfl⟩ (fun hHeld => ?_)
       clear hK; clear K
       refine norm_ (a' := ?_) ?_ ?_
       rotate_left
       ·show Act.put _ (some 31) _ = _
        simp only [Act.put, List.setIfInBounds_toArray, List.set_cons_zero, List.set_cons_succ, i64_w, i32_w]
        rfl
       refine one_ (i := 2) (N := some 27) #[true, true, true, true, false, true, true, false, false, false, false] rfl rfl (one_of HT_.out (by kernel_rfl)) (by decide) (fun K hK => ?_)
       refine Kd.R_lit_step k52 _ 52 ?hg (N := 27) ?hd (xs := ([] : List (S52))) (inner := []) (ok := fun _ => True) (okp := fun _ => True) ?hr ?hp (fun _ hk => hk) trivial (Below.refl _ _) (Nat.le_refl _) (by simp) ?_; (case hd => rfl); (case hg => rfl); (case hr => first | (go_simp; done) | (go_simp; rfl)); (case hp => exact (Reps.none _ _))
       intro v788 w50 ho51 hb hg_ hnew_
       clear hg_; clear hnew_
       (first | rw [← Ny787.out] at ho51 | (simp only [Int.reduceToNat] at ho51; rw [← Ny787.out] at ho51))
       have n0_ := Aside0.mk (Kd.R_below (mR HO780.out) hb)
       have n1_ := Aside0.mk (Kd.R_elder' (mR HO783.out) (Kd.R_base ho51) hb)
       have n2_ := Aside0.mk (Kd.V_elder' (mV HO786.out) (Kd.R_base ho51) hb)
       have n3_ := Aside0.mk (Kd.R_elder' (mR HO795.out) (Kd.R_base ho51) hb)
       have n4_ := Aside0.mk (Kd.R_lower (Kd.R_newB (Kd.R_new' (Kd.R_new' ho51 (Kd.R_lt (mR HO783.out))) (Kd.R_lt (mR HO795.out))) (g := gb777) (o := .cells #[.int .i64 a3_0, .int .i64 a3_1] 52 (0, 0)) (mBK BK777.out)) (below_size (mBs HB.out)))
       have n5_ := Aside0.mk (blk_below (g := gb777) (o := .cells #[.int .i64 a3_0, .int .i64 a3_1] 52 (0, 0)) (mBK BK777.out) hb)
       have n6_ := Aside0.mk (below_step (mBs HB.out) hb)
       clear HO780; clear HO783; clear HO786; clear HO795; clear BK777; clear HB
       have HO780 := n0_
       have HO783 := n1_
       have HO786 := n2_
       have HO795 := n3_
       have HO789 := n4_
       have BK777 := n5_
       have HB := n6_
       clear n0_; clear n1_; clear n2_; clear n3_; clear n4_; clear n5_; clear n6_; clear hb; clear ho51
       refine hK.out _ _ ⟨(blk_cell BK777.out 0).trans rfl, (blk_cell BK777.out 1).trans rfl⟩ (fun hHeld => ?_)
       clear hK; clear K
       refine norm_ (a' := ?_) ?_ ?_
       rotate_left
       ·show Act.put _ (some 27) _ = _
        simp only [Act.put, List.setIfInBounds_toArray, List.set_cons_zero, List.set_cons_succ, i64_w, i32_w]
        rfl
       refine one_ (i := 4) (N := some 29) #[true, true, true, true, true, true, true, false, false, false, false] rfl rfl (one_of HT_.out (by kernel_rfl)) (by decide) (fun K hK => ?_)
       refine Kd.R_append_rows_step k52 (w0 := w) w.heap.size (by rfl) (.tmp 27) (.tmp 28) 44 52 (.agg #[(.int .i64 0), (.int .i64 0)]) 16 rfl Try.underlying44 info52 rfl (by decide) (by omega) v788 y787 t781 _ _ _ (fun k_ => some k_ ≠ (.slice Ao45 t781.length co45 : Value).ownBlock ∧ some k_ ≠ (v794 : Value).ownBlock ∧ k_ ≠ gb777) (fun _ => False) rfl rfl ?aO ?aR (fun _ _ h => h) (fun _ h => h.elim) ?aF ?aB ?aS ?aL ?_
       (case aR => repeat (first | exact (Kd.R_reads' HO783.out).2.2 | (with_reducible refine Kd.C_alloc ?_ _) | (with_reducible refine Kd.C_drewN ?_ _) | (with_reducible refine Kd.C_drew ?_)))
       (case aB => exact (mBs HB.out))
       (case aF => exact (fun k_ hk => ⟨Kd.fresh' (Kd.R_lt (mR HO783.out)) k_ hk, Kd.fresh' (Kd.R_lt (mR HO795.out)) k_ hk, Kd.freshB (g := gb777) (o := .cells #[.int .i64 a3_0, .int .i64 a3_1] 52 (0, 0)) (mBK BK777.out) k_ hk⟩))
       (case aO => exact (by (with_reducible repeat (first | apply Kd.R_alloc | apply Kd.R_drewN | apply Kd.R_drew)); exact Kd.R_mono HO789.out (fun _ hk => ⟨hk.1.1.2, ⟨hk.1.2, hk.2⟩⟩)))
       (case aS => exact (below_size (mBs HB.out)))
       (case aL => have := LMc8.out; omega)
       intro v791 w52 ho hb hg hat
       rw [← Ny790.out] at ho
       have n0_ := Aside0.mk (blk_grown (g := gb777) (o := .cells #[.int .i64 a3_0, .int .i64 a3_1] 52 (0, 0)) (mBK BK777.out) hg (Kd.R_away HO789.out (fun _ hk => hk.2)))
       have n1_ := Aside0.mk (Kd.R_over' (mR HO780.out) (Kd.R_typed (mR HO789.out)) (by decide) hg)
       have n2_ := Aside0.mk (Kd.R_after (ok := (fun k_ => some k_ ≠ (v794 : Value).ownBlock ∧ k_ ≠ gb777)) (by (with_reducible repeat (first | apply Kd.R_alloc | apply Kd.R_drewN | apply Kd.R_drew)); exact Kd.R_mono HO783.out (fun _ hk => ⟨⟨hk.1.2, hk.1.1.2⟩, hk.2⟩)) hg hat)
       have n3_ := Aside0.mk (Kd.V_afterv (ok := (fun k_ => some k_ ≠ (.slice Ao44 t778.length co44 : Value).ownBlock ∧ some k_ ≠ (.slice Ao45 t781.length co45 : Value).ownBlock ∧ some k_ ≠ (v794 : Value).ownBlock ∧ k_ ≠ gb777)) (by (with_reducible repeat (first | apply Kd.V_alloc | apply Kd.V_drewN | apply Kd.V_drew)); exact Kd.V_mono HO786.out (fun _ hk => ⟨⟨hk.1.1.1, ⟨hk.1.1.2.1, ⟨hk.1.2, hk.1.1.2.2⟩⟩⟩, hk.2⟩)) hg hat)
       have n4_ := Aside0.mk (Kd.R_after (ok := (fun k_ => some k_ ≠ (.slice Ao45 t781.length co45 : Value).ownBlock ∧ k_ ≠ gb777)) (by (with_reducible repeat (first | apply Kd.R_alloc | apply Kd.R_drewN | apply Kd.R_drew)); exact Kd.R_mono HO795.out (fun _ hk => ⟨⟨hk.1.1.2, hk.1.2⟩, hk.2⟩)) hg hat)
       have n5_ := Aside0.mk (hb)
       have n6_ := Aside0.mk (ho)
       clear BK777; clear HO780; clear HO783; clear HO786; clear HO795; clear HB; clear HO789
       have BK777 := n0_
       have HO780 := n1_
       have HO783 := n2_
       have HO786 := n3_
       have HO795 := n4_
       have HB := n5_
       have HO792 := n6_
       clear n0_; clear n1_; clear n2_; clear n3_; clear n4_; clear n5_; clear n6_; clear ho; clear hb; clear hg; clear hat
       refine hK.out _ _ ⟨(blk_cell BK777.out 0).trans rfl, (blk_cell BK777.out 1).trans rfl⟩ (fun hHeld => ?_)
       clear hK; clear K
       refine norm_ (a' := ?_) ?_ ?_
       rotate_left
       ·show Act.put _ (some 29) _ = _
        simp only [Act.put, List.setIfInBounds_toArray, List.set_cons_zero, List.set_cons_succ, i64_w, i32_w]
        rfl
       exact norm_ (by simp only [putAll, Act.put, List.setIfInBounds_toArray, List.set_cons_zero, List.set_cons_succ]) (hCont (v788, v791, v794) _ ⟨hHeld, (mR HO780.out), (by (with_reducible repeat (first | apply Kd.R_alloc | apply Kd.R_drewN | apply Kd.R_drew)); exact Kd.R_mono HO783.out (fun _ hk => ⟨hk.2, ⟨hk.1.1, hk.1.2⟩⟩)), (by (with_reducible repeat (first | apply Kd.V_alloc | apply Kd.V_drewN | apply Kd.V_drew)); exact Kd.V_mono HO786.out (fun _ hk => ⟨hk.1.1, ⟨hk.1.2.1, ⟨hk.2, ⟨hk.1.2.2.1, hk.1.2.2.2⟩⟩⟩⟩)), (mR HO792.out), (by (with_reducible repeat (first | apply Kd.R_alloc | apply Kd.R_drewN | apply Kd.R_drew)); exact Kd.R_mono HO795.out (fun _ hk => ⟨hk.1.1, ⟨hk.2, hk.1.2⟩⟩)), (mBK BK777.out), (mBs HB.out)⟩)
     rintro ⟨v788, v791, v794⟩ w53 ⟨hS_, h0_, h1_, h2_, h3_, h4_, h5_, h6_⟩
     have n0_ : Aside0 (Kd.R k38 38 w53 w.heap.size (fun _ => True) (.slice Ao44 t778.length co44) t778) := ⟨h0_⟩
     have n1_ : Aside0 (Kd.R k52 52 w53 w.heap.size (fun k_ => some k_ ≠ (v791 : Value).ownBlock ∧ some k_ ≠ (v794 : Value).ownBlock ∧ k_ ≠ gb777) (.slice Ao45 t781.length co45) t781) := ⟨h1_⟩
     have n2_ : Aside0 (Kd.V (Kd.int .i64) 3 w53 w.heap.size (fun k_ => some k_ ≠ (.slice Ao44 t778.length co44 : Value).ownBlock ∧ some k_ ≠ (.slice Ao45 t781.length co45 : Value).ownBlock ∧ some k_ ≠ (v791 : Value).ownBlock ∧ some k_ ≠ (v794 : Value).ownBlock ∧ k_ ≠ gb777) v785 t784) := ⟨h2_⟩
     have n3_ : Aside0 (Kd.R k52 52 w53 w.heap.size (fun k_ => some k_ ≠ (.slice Ao45 t781.length co45 : Value).ownBlock ∧ some k_ ≠ (v794 : Value).ownBlock ∧ k_ ≠ gb777) v791 y790) := ⟨h3_⟩
     have n4_ : Aside0 (Kd.R k52 52 w53 w.heap.size (fun k_ => some k_ ≠ (.slice Ao45 t781.length co45 : Value).ownBlock ∧ some k_ ≠ (v791 : Value).ownBlock ∧ k_ ≠ gb777) v794 y793) := ⟨h4_⟩
     have n5_ : Aside0 (w53.heap[gb777]? = some (.cells #[.int .i64 a3_0, .int .i64 a3_1] 52 (0, 0))) := ⟨h5_⟩
     have n6_ : Aside0 (Below w.heap.size w w53) := ⟨h6_⟩
     clear HO780; clear HO783; clear HO786; clear BK777; clear HB; clear h0_; clear h1_; clear h2_; clear h3_; clear h4_; clear h5_; clear h6_
     have HO780 := n0_
     have HO783 := n1_
     have HO786 := n2_
     have HO792 := n3_
     have HO795 := n4_
     have BK777 := n5_
     have HB := n6_
     clear n0_; clear n1_; clear n2_; clear n3_; clear n4_; clear n5_; clear n6_
     have hHeld : w53.cell? ⟨gb777, 0, none⟩ = some (.int .i64 a3_0) ∧ w53.cell? ⟨gb777, 1, none⟩ = some (.int .i64 a3_1) := hS_
     obtain ⟨Ao54, co54, eo54⟩ := Kd.R_slice HO795.out
     (first | subst eo54 | (injection eo54 with f1_ f2_ f3_; have f4_ := f1_.symm; have f5_ := f3_.symm; clear f1_ f2_ f3_; subst f4_; subst f5_))
     refine norm_ (a' := ?_) ?_ ?_
     rotate_left
     ·simp only [putAll, Act.put, List.setIfInBounds_toArray, List.set_cons_zero, List.set_cons_succ]
      rfl
     refine one_ (i := 7) (N := some 32) #[true, true, true, true, true, true, true, true, false, false, false] rfl rfl (one_of HT_.out (by kernel_rfl)) (by decide) (fun K hK => ?_)
     refine goes_ Try.func32 (by kernel_rfl) rfl #[.slice Ao54 y793.length co54] (by rfl) rfl rfl mt ?_
     with_reducible refine (prebendref18_Asks.calls k _ _ y793 t796 _ ?side1 ?side2 A9.out).mono ?_
     (case side1 => exact mC (Kd.R_reads' HO795.out).2.2)
     (case side2 => exact (Kd.R_reads' HO795.out).2.1)
     rintro e w55 ⟨v797, rfl, ho0, hb⟩
     refine ⟨_, rfl, ?_⟩
     have n0_ := Aside0.mk (Kd.R_below (mR HO780.out) hb)
     have n1_ := Aside0.mk (Kd.R_elder' (mR HO783.out) (Kd.R_base ho0) hb)
     have n2_ := Aside0.mk (Kd.V_elder' (mV HO786.out) (Kd.R_base ho0) hb)
     have n3_ := Aside0.mk (Kd.R_elder' (mR HO792.out) (Kd.R_base ho0) hb)
     have n4_ := Aside0.mk (Kd.R_elder' (mR HO795.out) (Kd.R_base ho0) hb)
     have n5_ := Aside0.mk (Kd.R_lower (Kd.R_newB (Kd.R_new' (Kd.R_new' (Kd.R_new' ho0 (Kd.R_lt (mR HO783.out))) (Kd.R_lt (mR HO792.out))) (Kd.R_lt (mR HO795.out))) (g := gb777) (o := .cells #[.int .i64 a3_0, .int .i64 a3_1] 52 (0, 0)) (mBK BK777.out)) (below_size (mBs HB.out)))
     have n6_ := Aside0.mk (blk_below (g := gb777) (o := .cells #[.int .i64 a3_0, .int .i64 a3_1] 52 (0, 0)) (mBK BK777.out) hb)
     have n7_ := Aside0.mk (below_step (mBs HB.out) hb)
     clear HO780; clear HO783; clear HO786; clear HO792; clear HO795; clear BK777; clear HB
     have HO780 := n0_
     have HO783 := n1_
     have HO786 := n2_
     have HO792 := n3_
     have HO795 := n4_
     have HO798 := n5_
     have BK777 := n6_
     have HB := n7_
     clear n0_; clear n1_; clear n2_; clear n3_; clear n4_; clear n5_; clear n6_; clear n7_
     (try clear hb); (try clear hb2); (try clear hk); (try clear hi); (try clear ho0)
     obtain ⟨Ao57, co57, eo57⟩ := Kd.R_slice HO798.out
     (first | subst eo57 | (injection eo57 with f1_ f2_ f3_; have f4_ := f1_.symm; have f5_ := f3_.symm; clear f1_ f2_ f3_; subst f4_; subst f5_))
     refine hK.out _ _ ⟨(blk_cell BK777.out 0).trans rfl, (blk_cell BK777.out 1).trans rfl⟩ (fun hHeld => ?_)
     clear hK; clear K
     refine norm_ (a' := ?_) ?_ ?_
     rotate_left
     ·show Act.put _ (some 32) _ = _
      simp only [Act.put, List.setIfInBounds_toArray, List.set_cons_zero, List.set_cons_succ, i64_w, i32_w]
      rfl
     refine one_ (i := 8) (N := some 33) #[true, true, true, true, true, true, true, true, true, false, false] rfl rfl (one_of HT_.out (by kernel_rfl)) (by decide) (fun K hK => ?_)
     refine Kd.R_append_rows_step k52 (w0 := w) w.heap.size (by rfl) (.tmp 29) (.tmp 32) 44 52 (.agg #[(.int .i64 0), (.int .i64 0)]) 16 rfl Try.underlying44 info52 rfl (by decide) (by omega) v791 y790 t796 _ _ _ (fun k_ => some k_ ≠ (.slice Ao45 t781.length co45 : Value).ownBlock ∧ some k_ ≠ (.slice Ao54 y793.length co54 : Value).ownBlock ∧ some k_ ≠ (.slice Ao57 t796.length co57 : Value).ownBlock ∧ k_ ≠ gb777) (fun _ => False) rfl rfl ?aO ?aR (fun _ _ h => h) (fun _ h => h.elim) ?aF ?aB ?aS ?aL ?_
     (case aR => repeat (first | exact (Kd.R_reads' HO798.out).2.2 | (with_reducible refine Kd.C_alloc ?_ _) | (with_reducible refine Kd.C_drewN ?_ _) | (with_reducible refine Kd.C_drew ?_)))
     (case aB => exact (mBs HB.out))
     (case aF => exact (fun k_ hk => ⟨Kd.fresh' (Kd.R_lt (mR HO783.out)) k_ hk, Kd.fresh' (Kd.R_lt (mR HO795.out)) k_ hk, Kd.fresh' (Kd.R_lt (mR HO798.out)) k_ hk, Kd.freshB (g := gb777) (o := .cells #[.int .i64 a3_0, .int .i64 a3_1] 52 (0, 0)) (mBK BK777.out) k_ hk⟩))
     (case aO => exact (by (with_reducible repeat (first | apply Kd.R_alloc | apply Kd.R_drewN | apply Kd.R_drew)); exact Kd.R_mono HO792.out (fun _ hk => ⟨hk.1.1, ⟨hk.1.2.1, ⟨hk.2, hk.1.2.2⟩⟩⟩)))
     (case aS => exact (below_size (mBs HB.out)))
     (case aL => have := LMc10.out; omega)
     intro v800 w56 ho hb hg hat
     rw [← Ny799.out] at ho
     have n0_ := Aside0.mk (blk_grown (g := gb777) (o := .cells #[.int .i64 a3_0, .int .i64 a3_1] 52 (0, 0)) (mBK BK777.out) hg (Kd.R_away HO792.out (fun _ hk => hk.1.2.2)))
     have n1_ := Aside0.mk (Kd.R_over' (mR HO780.out) (Kd.R_typed (mR HO792.out)) (by decide) hg)
     have n2_ := Aside0.mk (Kd.R_after (ok := (fun k_ => some k_ ≠ (.slice Ao54 y793.length co54 : Value).ownBlock ∧ some k_ ≠ (.slice Ao57 t796.length co57 : Value).ownBlock ∧ k_ ≠ gb777)) (by (with_reducible repeat (first | apply Kd.R_alloc | apply Kd.R_drewN | apply Kd.R_drew)); exact Kd.R_mono HO783.out (fun _ hk => ⟨⟨hk.1.2.1, ⟨hk.2, hk.1.2.2⟩⟩, hk.1.1⟩)) hg hat)
     have n3_ := Aside0.mk (Kd.V_afterv (ok := (fun k_ => some k_ ≠ (.slice Ao44 t778.length co44 : Value).ownBlock ∧ some k_ ≠ (.slice Ao45 t781.length co45 : Value).ownBlock ∧ some k_ ≠ (.slice Ao54 y793.length co54 : Value).ownBlock ∧ some k_ ≠ (.slice Ao57 t796.length co57 : Value).ownBlock ∧ k_ ≠ gb777)) (by (with_reducible repeat (first | apply Kd.V_alloc | apply Kd.V_drewN | apply Kd.V_drew)); exact Kd.V_mono HO786.out (fun _ hk => ⟨⟨hk.1.1, ⟨hk.1.2.1, ⟨hk.1.2.2.2.1, ⟨hk.2, hk.1.2.2.2.2⟩⟩⟩⟩, hk.1.2.2.1⟩)) hg hat)
     have n4_ := Aside0.mk (Kd.R_after (ok := (fun k_ => some k_ ≠ (.slice Ao45 t781.length co45 : Value).ownBlock ∧ some k_ ≠ (.slice Ao57 t796.length co57 : Value).ownBlock ∧ k_ ≠ gb777)) (by (with_reducible repeat (first | apply Kd.R_alloc | apply Kd.R_drewN | apply Kd.R_drew)); exact Kd.R_mono HO795.out (fun _ hk => ⟨⟨hk.1.1, ⟨hk.2, hk.1.2.2⟩⟩, hk.1.2.1⟩)) hg hat)
     have n5_ := Aside0.mk (Kd.R_after (ok := (fun k_ => some k_ ≠ (.slice Ao45 t781.length co45 : Value).ownBlock ∧ some k_ ≠ (.slice Ao54 y793.length co54 : Value).ownBlock ∧ k_ ≠ gb777)) (by (with_reducible repeat (first | apply Kd.R_alloc | apply Kd.R_drewN | apply Kd.R_drew)); exact Kd.R_mono HO798.out (fun _ hk => ⟨⟨hk.1.1.1.2, ⟨hk.1.2, hk.2⟩⟩, hk.1.1.2⟩)) hg hat)
     have n6_ := Aside0.mk (hb)
     have n7_ := Aside0.mk (ho)
     clear BK777; clear HO780; clear HO783; clear HO786; clear HO795; clear HO798; clear HB; clear HO792
     have BK777 := n0_
     have HO780 := n1_
     have HO783 := n2_
     have HO786 := n3_
     have HO795 := n4_
     have HO798 := n5_
     have HB := n6_
     have HO801 := n7_
     clear n0_; clear n1_; clear n2_; clear n3_; clear n4_; clear n5_; clear n6_; clear n7_; clear ho; clear hb; clear hg; clear hat
     obtain ⟨Ao58, co58, eo58⟩ := Kd.R_slice HO801.out
     (first | subst eo58 | (injection eo58 with f1_ f2_ f3_; have f4_ := f1_.symm; have f5_ := f3_.symm; clear f1_ f2_ f3_; subst f4_; subst f5_))
     refine hK.out _ _ ⟨(blk_cell BK777.out 0).trans rfl, (blk_cell BK777.out 1).trans rfl⟩ (fun hHeld => ?_)
     clear hK; clear K
     refine norm_ (a' := ?_) ?_ ?_
     rotate_left
     ·show Act.put _ (some 33) _ = _
      simp only [Act.put, List.setIfInBounds_toArray, List.set_cons_zero, List.set_cons_succ, i64_w, i32_w]
      rfl
     refine one_ (i := 9) (N := some 34) #[true, true, true, true, true, true, true, true, true, true, false] rfl rfl (one_of HT_.out (by kernel_rfl)) (by decide) (fun K hK => ?_)
     refine goes_ Try.func37 (by kernel_rfl) rfl #[.int .i64 0, .int .i64 (wrap64 (Int.tmod a0 40)), .slice Ao44 t778.length co44, .slice Ao58 y799.length co58, .slice none 0 0] (by rfl) rfl rfl mt ?_
     refine (cons_Plan.calls k 0 (wrap64 (Int.tmod a0 40)) _ _ t778 _ _ y799 _ _ ([] : List Bool) t802 _ ?side1 ?side2 ?side3 ?side4 ?side5 ?side6 A11.out).mono ?_
     (case side1 => exact mC (Kd.R_reads' HO780.out).2.2)
     (case side2 => exact (Kd.R_reads' HO780.out).2.1)
     (case side3 => exact mC (Kd.R_reads' HO801.out).2.2)
     (case side4 => exact (Kd.R_reads' HO801.out).2.1)
     (case side5 => exact Kd.C_nil _ _)
     (case side6 => exact Nat.le_refl _)
     rintro e w59 ⟨v803, rfl, ho0, hb⟩
     refine ⟨_, rfl, ?_⟩
     have n0_ := Aside0.mk (Kd.R_below (mR HO780.out) hb)
     have n1_ := Aside0.mk (Kd.R_below (mR HO783.out) hb)
     have n2_ := Aside0.mk (Kd.V_below (mV HO786.out) hb)
     have n3_ := Aside0.mk (Kd.R_below (mR HO795.out) hb)
     have n4_ := Aside0.mk (Kd.R_below (mR HO798.out) hb)
     have n5_ := Aside0.mk (Kd.R_below (mR HO801.out) hb)
     have n6_ := Aside0.mk (Kd.V_lower (Kd.V_mono (ok' := fun k_ => some k_ ≠ (.slice Ao44 t778.length co44 : Value).ownBlock ∧ some k_ ≠ (.slice Ao45 t781.length co45 : Value).ownBlock ∧ some k_ ≠ (.slice Ao54 y793.length co54 : Value).ownBlock ∧ some k_ ≠ (.slice Ao57 t796.length co57 : Value).ownBlock ∧ some k_ ≠ (.slice Ao58 y799.length co58 : Value).ownBlock ∧ k_ ≠ gb777) ho0 (fun k_ hk_ => ⟨(Kd.fresh' (Kd.R_lt (mR HO780.out)) k_ hk_), (Kd.fresh' (Kd.R_lt (mR HO783.out)) k_ hk_), (Kd.fresh' (Kd.R_lt (mR HO795.out)) k_ hk_), (Kd.fresh' (Kd.R_lt (mR HO798.out)) k_ hk_), (Kd.fresh' (Kd.R_lt (mR HO801.out)) k_ hk_), (Kd.freshB (g := gb777) (o := .cells #[.int .i64 a3_0, .int .i64 a3_1] 52 (0, 0)) (mBK BK777.out) k_ hk_)⟩)) (below_size (mBs HB.out)))
     have n7_ := Aside0.mk (blk_below (g := gb777) (o := .cells #[.int .i64 a3_0, .int .i64 a3_1] 52 (0, 0)) (mBK BK777.out) hb)
     have n8_ := Aside0.mk (below_step (mBs HB.out) hb)
     clear HO780; clear HO783; clear HO786; clear HO795; clear HO798; clear HO801; clear BK777; clear HB
     have HO780 := n0_
     have HO783 := n1_
     have HO786 := n2_
     have HO795 := n3_
     have HO798 := n4_
     have HO801 := n5_
     have HO804 := n6_
     have BK777 := n7_
     have HB := n8_
     clear n0_; clear n1_; clear n2_; clear n3_; clear n4_; clear n5_; clear n6_; clear n7_; clear n8_
     (try clear hb); (try clear hb2); (try clear hk); (try clear hi); (try clear ho0)
     refine hK.out _ _ ⟨(blk_cell BK777.out 0).trans rfl, (blk_cell BK777.out 1).trans rfl⟩ (fun hHeld => ?_)
     clear hK; clear K
     refine norm_ (a' := ?_) ?_ ?_
     rotate_left
     ·show Act.put _ (some 34) _ = _
      simp only [Act.put, List.setIfInBounds_toArray, List.set_cons_zero, List.set_cons_succ, i64_w, i32_w]
      rfl
     refine plan_ [(10, 13)] ?_
     refine planP_ (v := ?_) (a' := ?_) rfl rfl (any_of HT_.out (by kernel_rfl)) (fun _ _ _ h => h) (Or.inl ⟨by rfl, ?_⟩) ?_ ?_; rotate_left; (intro w'; go_simp; with_reducible rfl); rotate_left; (simp only [Act.put, List.setIfInBounds_toArray, List.set_cons_zero, List.set_cons_succ, i64_w, i32_w]; rfl)
     refine planEnd_ ?_
     refine done_ (done_of HT_.out (by kernel_rfl)) ?_
     try go_wp2_with (first | ((with_reducible refine gate_callee (f := 35) rfl ?_); refine goesL_ (some 35) rfl rfl Try.func35 (by kernel_rfl) rfl #[] rfl mt ?_; (with_reducible refine (prebendlaw18_awake.calls k  true _ A12.out).mono ?_); rintro e w60 ⟨rfl, hb⟩; refine ⟨_, rfl, ?_⟩; have n0_ := Aside0.mk (Kd.R_below (mR HO780.out) hb); have n1_ := Aside0.mk (Kd.R_below (mR HO783.out) hb); have n2_ := Aside0.mk (Kd.V_below (mV HO786.out) hb); have n3_ := Aside0.mk (Kd.R_below (mR HO795.out) hb); have n4_ := Aside0.mk (Kd.R_below (mR HO798.out) hb); have n5_ := Aside0.mk (Kd.R_below (mR HO801.out) hb); have n6_ := Aside0.mk (Kd.V_below (mV HO804.out) hb); have n7_ := Aside0.mk (blk_below (g := gb777) (o := .cells #[.int .i64 a3_0, .int .i64 a3_1] 52 (0, 0)) (mBK BK777.out) hb); have n8_ := Aside0.mk (below_step (mBs HB.out) hb); clear HO780; clear HO783; clear HO786; clear HO795; clear HO798; clear HO801; clear HO804; clear BK777; clear HB; have HO780 := n0_; have HO783 := n1_; have HO786 := n2_; have HO795 := n3_; have HO798 := n4_; have HO801 := n5_; have HO804 := n6_; have BK777 := n7_; have HB := n8_; clear n0_ n1_ n2_ n3_ n4_ n5_ n6_ n7_ n8_; (try clear hb); (try clear hb2); (try clear hk); (try clear hi); obtain ⟨Ao61, co61, eo61⟩ := Kd.V_slice HO804.out; subst eo61))
     go_ret
     exact ⟨by first | rfl | (simp [errW_none, errW_some] <;> rfl) | (simp [*, errW_none, errW_some] <;> rfl), by repeat (first | (with_reducible first | exact HB.out | apply below_alloc | apply pw_below_drewN | apply below_drew1 | refine below_set ?_ GE777.out) | exact HB.out)⟩
   ·replace c13 := Bool.eq_false_iff.mpr c13
    subst c13
    have H1 : (some false) = some r := by rw [if_neg (show ¬ (false = true) by decide)] at H; exact H
    clear H
    have H := H1
    clear H1
    obtain rfl := Option.some.inj H
    go_enter Try.func12, Try.ntmps12
    try go_wp2_with (first | ((with_reducible refine gate_dst (N := 7) rfl ?_); (try (refine gate_guard (by rfl) ?_; dsimp only)); refine box_event ?hg (N := 7) ?hd (cs := #[.int .i64 a3_0, .int .i64 a3_1]) (t := 52) ?hr ?_; (case hd => rfl); (case hg => rfl); (case hr => first | (go_simp; done) | (go_simp; rfl)); intro gb777 hg w62 hbox hb; have n0_ := Aside0.mk (below_step (mB HB.out) hb); have n1_ := Aside0.mk (hbox); have n2_ := Aside0.mk ((by rw [hg]; exact (below_size (mB HB.out)) : w.heap.size ≤ gb777)); have n3_ := Aside0.mk ((by rw [hg]; exact (below_size (mB HB.out)) : w.heap.size ≤ gb777)); clear HB; have HB := n0_; have BK777 := n1_; have GW777 := n2_; have GE777 := n3_; clear n0_ n1_ n2_ n3_; clear hb hbox hg) | ((with_reducible refine gate_callee (f := 25) rfl ?_); refine goesL_ (some 18) rfl rfl Try.func25 (by kernel_rfl) rfl #[.slice A1 l1.length c1] rfl mt ?_; (with_reducible refine (prebendref17_Busy.calls k _ _ l1 t778 _ ?side1 ?side2 A5.out).mono ?_); (case side1 => repeat (first | exact (Kd.C_below HR1.out HB.out) | (with_reducible refine Kd.C_alloc ?_ _) | (with_reducible refine Kd.C_drewN ?_ _) | (with_reducible refine Kd.C_drew ?_))); (case side2 => exact HC1.out); rintro e w63 ⟨v779, rfl, ho0, hb⟩; refine ⟨_, rfl, ?_⟩; have n0_ := Aside0.mk (Kd.R_lower ho0 (below_size (mBs HB.out))); have n1_ := Aside0.mk (blk_below (g := gb777) (o := .cells #[.int .i64 a3_0, .int .i64 a3_1] 52 (0, 0)) (mBK BK777.out) hb); have n2_ := Aside0.mk (below_step (mBs HB.out) hb); clear BK777; clear HB; have HO780 := n0_; have BK777 := n1_; have HB := n2_; clear n0_ n1_ n2_; (try clear hb); (try clear hb2); (try clear hk); (try clear hi); (try clear ho0)) | ((with_reducible refine gate_callee (f := 32) rfl ?_); refine goesL_ (some 20) rfl rfl Try.func32 (by kernel_rfl) rfl #[.slice A2 l2.length c2] rfl mt ?_; (with_reducible refine (prebendref18_Asks.calls k _ _ l2 t781 _ ?side1 ?side2 A6.out).mono ?_); (case side1 => repeat (first | exact (Kd.C_below HR2.out HB.out) | (with_reducible refine Kd.C_alloc ?_ _) | (with_reducible refine Kd.C_drewN ?_ _) | (with_reducible refine Kd.C_drew ?_))); (case side2 => exact HC2.out); rintro e w64 ⟨v782, rfl, ho0, hb⟩; refine ⟨_, rfl, ?_⟩; have n0_ := Aside0.mk (Kd.R_below (mR HO780.out) hb); have n1_ := Aside0.mk (Kd.R_lower (Kd.R_newB ho0 (g := gb777) (o := .cells #[.int .i64 a3_0, .int .i64 a3_1] 52 (0, 0)) (mBK BK777.out)) (below_size (mBs HB.out))); have n2_ := Aside0.mk (blk_below (g := gb777) (o := .cells #[.int .i64 a3_0, .int .i64 a3_1] 52 (0, 0)) (mBK BK777.out) hb); have n3_ := Aside0.mk (below_step (mBs HB.out) hb); clear HO780; clear BK777; clear HB; have HO780 := n0_; have HO783 := n1_; have BK777 := n2_; have HB := n3_; clear n0_ n1_ n2_ n3_; (try clear hb); (try clear hb2); (try clear hk); (try clear hi); (try clear ho0); obtain ⟨Ao65, co65, eo65⟩ := Kd.R_slice HO780.out; subst eo65; obtain ⟨Ao66, co66, eo66⟩ := Kd.R_slice HO783.out; subst eo66) | ((with_reducible refine gate_callee (f := 37) rfl ?_); refine goesL_ (some 24) rfl rfl Try.func37 (by kernel_rfl) rfl #[.int .i64 0, .int .i64 (wrap64 (Int.tmod a0 40)), .slice Ao65 t778.length co65, .slice Ao66 t781.length co66, .slice none 0 0] rfl mt ?_; (refine (cons_Plan.calls k 0 (wrap64 (Int.tmod a0 40)) _ _ t778 _ _ t781 _ _ ([] : List Bool) t784 _ ?side1 ?side2 ?side3 ?side4 ?side5 ?side6 A7.out).mono ?_); (case side1 => exact mC (Kd.R_reads' HO780.out).2.2); (case side2 => exact (Kd.R_reads' HO780.out).2.1); (case side3 => exact mC (Kd.R_reads' HO783.out).2.2); (case side4 => exact (Kd.R_reads' HO783.out).2.1); (case side5 => exact Kd.C_nil _ _); (case side6 => exact Nat.le_refl _); rintro e w67 ⟨v785, rfl, ho0, hb⟩; refine ⟨_, rfl, ?_⟩; have n0_ := Aside0.mk (Kd.R_below (mR HO780.out) hb); have n1_ := Aside0.mk (Kd.R_below (mR HO783.out) hb); have n2_ := Aside0.mk (Kd.V_lower (Kd.V_mono (ok' := fun k_ => some k_ ≠ (.slice Ao65 t778.length co65 : Value).ownBlock ∧ some k_ ≠ (.slice Ao66 t781.length co66 : Value).ownBlock ∧ k_ ≠ gb777) ho0 (fun k_ hk_ => ⟨(Kd.fresh' (Kd.R_lt (mR HO780.out)) k_ hk_), (Kd.fresh' (Kd.R_lt (mR HO783.out)) k_ hk_), (Kd.freshB (g := gb777) (o := .cells #[.int .i64 a3_0, .int .i64 a3_1] 52 (0, 0)) (mBK BK777.out) k_ hk_)⟩)) (below_size (mBs HB.out))); have n3_ := Aside0.mk (blk_below (g := gb777) (o := .cells #[.int .i64 a3_0, .int .i64 a3_1] 52 (0, 0)) (mBK BK777.out) hb); have n4_ := Aside0.mk (below_step (mBs HB.out) hb); clear HO780; clear HO783; clear BK777; clear HB; have HO780 := n0_; have HO783 := n1_; have HO786 := n2_; have BK777 := n3_; have HB := n4_; clear n0_ n1_ n2_ n3_ n4_; (try clear hb); (try clear hb2); (try clear hk); (try clear hi); (try clear ho0)))
    have n0_ := Aside0.mk (Kd.R_drew HO780.out)
    have n1_ := Aside0.mk (Kd.R_drew HO783.out)
    have n2_ := Aside0.mk (Kd.V_drew HO786.out)
    have n3_ := Aside0.mk (blk_drew BK777.out)
    have n4_ := Aside0.mk (below_drew1 HB.out)
    clear HO780; clear HO783; clear HO786; clear BK777; clear HB
    have HO780 := n0_
    have HO783 := n1_
    have HO786 := n2_
    have BK777 := n3_
    have HB := n4_
    clear n0_; clear n1_; clear n2_; clear n3_; clear n4_
    refine start_ (n := 11) (S := fun w' => w'.cell? ⟨gb777, 0, none⟩ = some (.int .i64 a3_0) ∧ w'.cell? ⟨gb777, 1, none⟩ = some (.int .i64 a3_1)) (ds := []) #[false, false, false, false, false, false, false, false, false, false, false] (by kernel_rfl) rfl rfl ⟨(blk_cell BK777.out 0).trans rfl, (blk_cell BK777.out 1).trans rfl⟩ (fun hHeld => ?_); refine with_tabW prebendlaw18_ConsLater.tab4 prebendlaw18_ConsLater.bits4 (fun HT_ HW_ => ?_)
    generalize w67.drew = w68 at HO780 HO783 HO786 BK777 HB hHeld ⊢
    refine plan_ [(0, 25), (1, 26), (3, 28)] ?_
    iterate 3 (refine planP_ (v := ?_) (a' := ?_) rfl rfl (any_of HT_.out (by kernel_rfl)) (fun _ _ _ h => h) (Or.inl ⟨by rfl, ?_⟩) ?_ ?_; rotate_left; (intro w'; go_simp; with_reducible rfl); rotate_left; (simp only [Act.put, List.setIfInBounds_toArray, List.set_cons_zero, List.set_cons_succ, i64_w, i32_w]; rfl))
    refine planEnd_ ?_
    refine plan_ [(5, 30)] ?_
    refine planT_ (v := ?_) (a' := ?_) rfl rfl (take_ofW HT_.out HW_.out (by kernel_rfl)) (fun _ _ _ h => h) (Or.inl ⟨by rfl, ?_⟩) hHeld ?_ ?_; rotate_left; (rintro w' ⟨s0, s1⟩; go_simp; with_reducible rfl); rotate_left; (simp only [Act.put, List.setIfInBounds_toArray, List.set_cons_zero, List.set_cons_succ, i64_w, i32_w]; rfl)
    refine planEnd_ ?_
    refine join_ (σ := Value × Value × Value) 4 #[true, true, true, true, true, true, true, false, false, false, false] (fun s_ => [(27, s_.1), (29, s_.2.1), (31, s_.2.2)]) (fun s_ w' => (w'.cell? ⟨gb777, 0, none⟩ = some (.int .i64 a3_0) ∧ w'.cell? ⟨gb777, 1, none⟩ = some (.int .i64 a3_1)) ∧ (Kd.R k38 38 w' w.heap.size (fun _ => True) (.slice Ao65 t778.length co65) t778) ∧ (Kd.R k52 52 w' w.heap.size (fun k_ => some k_ ≠ (s_.2.1 : Value).ownBlock ∧ some k_ ≠ (s_.2.2 : Value).ownBlock ∧ k_ ≠ gb777) (.slice Ao66 t781.length co66) t781) ∧ (Kd.V (Kd.int .i64) 3 w' w.heap.size (fun k_ => some k_ ≠ (.slice Ao65 t778.length co65 : Value).ownBlock ∧ some k_ ≠ (.slice Ao66 t781.length co66 : Value).ownBlock ∧ some k_ ≠ (s_.2.1 : Value).ownBlock ∧ some k_ ≠ (s_.2.2 : Value).ownBlock ∧ k_ ≠ gb777) v785 t784) ∧ (Kd.R k52 52 w' w.heap.size (fun k_ => some k_ ≠ (.slice Ao66 t781.length co66 : Value).ownBlock ∧ some k_ ≠ (s_.2.2 : Value).ownBlock ∧ k_ ≠ gb777) s_.2.1 y790) ∧ (Kd.R k52 52 w' w.heap.size (fun k_ => some k_ ≠ (.slice Ao66 t781.length co66 : Value).ownBlock ∧ some k_ ≠ (s_.2.1 : Value).ownBlock ∧ k_ ≠ gb777) s_.2.2 y793) ∧ (w'.heap[gb777]? = some (.cells #[.int .i64 a3_0, .int .i64 a3_1] 52 (0, 0))) ∧ (Below w.heap.size w w')) ?_ ?_
    rotate_left
    ·intro hCont
     refine two_ (i := 2) (j := 6) (Ni := some 27) (Nj := some 31) #[true, true, true, true, false, true, false, false, false, false, false] #[true, true, false, true, false, true, true, false, false, false, false] rfl rfl rfl rfl (two_of HT_.out (by kernel_rfl)) (by decide) (by decide) (fun K hK => ?_) (fun K hK => ?_)
     ·skip
      refine Kd.R_lit_step k52 _ 52 ?hg (N := 27) ?hd (xs := ([] : List (S52))) (inner := []) (ok := fun _ => True) (okp := fun _ => True) ?hr ?hp (fun _ hk => hk) trivial (Below.refl _ _) (Nat.le_refl _) (by simp) ?_; (case hd => rfl); (case hg => rfl); (case hr => first | (go_simp; done) | (go_simp; rfl)); (case hp => exact (Reps.none _ _))
      intro v788 w69 ho70 hb hg_ hnew_
      clear hg_; clear hnew_
      (first | rw [← Ny787.out] at ho70 | (simp only [Int.reduceToNat] at ho70; rw [← Ny787.out] at ho70))
      have n0_ := Aside0.mk (Kd.R_below (mR HO780.out) hb)
      have n1_ := Aside0.mk (Kd.R_elder' (mR HO783.out) (Kd.R_base ho70) hb)
      have n2_ := Aside0.mk (Kd.V_elder' (mV HO786.out) (Kd.R_base ho70) hb)
      have n3_ := Aside0.mk (Kd.R_lower (Kd.R_newB (Kd.R_new' ho70 (Kd.R_lt (mR HO783.out))) (g := gb777) (o := .cells #[.int .i64 a3_0, .int .i64 a3_1] 52 (0, 0)) (mBK BK777.out)) (below_size (mBs HB.out)))
      have n4_ := Aside0.mk (blk_below (g := gb777) (o := .cells #[.int .i64 a3_0, .int .i64 a3_1] 52 (0, 0)) (mBK BK777.out) hb)
      have n5_ := Aside0.mk (below_step (mBs HB.out) hb)
      clear HO780; clear HO783; clear HO786; clear BK777; clear HB
      have HO780 := n0_
      have HO783 := n1_
      have HO786 := n2_
      have HO789 := n3_
      have BK777 := n4_
      have HB := n5_
      clear n0_; clear n1_; clear n2_; clear n3_; clear n4_; clear n5_; clear hb; clear ho70
      refine hK.out _ _ ⟨(blk_cell BK777.out 0).trans rfl, (blk_cell BK777.out 1).trans rfl⟩ (fun hHeld => ?_)
      clear hK; clear K
      refine norm_ (a' := ?_) ?_ ?_
      rotate_left
      ·show Act.put _ (some 27) _ = _
       simp only [Act.put, List.setIfInBounds_toArray, List.set_cons_zero, List.set_cons_succ, i64_w, i32_w]
       rfl
      refine two_ (i := 4) (j := 6) (Ni := some 29) (Nj := some 31) #[true, true, true, true, true, true, false, false, false, false, false] #[true, true, true, true, false, true, true, false, false, false, false] rfl rfl rfl rfl (two_of HT_.out (by kernel_rfl)) (by decide) (by decide) (fun K hK => ?_) (fun K hK => ?_)
      ·skip
       refine Kd.R_append_rows_step k52 (w0 := w) w.heap.size (by rfl) (.tmp 27) (.tmp 28) 44 52 (.agg #[(.int .i64 0), (.int .i64 0)]) 16 rfl Try.underlying44 info52 rfl (by decide) (by omega) v788 y787 t781 _ _ _ (fun k_ => some k_ ≠ (.slice Ao66 t781.length co66 : Value).ownBlock ∧ k_ ≠ gb777) (fun _ => False) rfl rfl ?aO ?aR (fun _ _ h => h) (fun _ h => h.elim) ?aF ?aB ?aS ?aL ?_
       (case aR => repeat (first | exact (Kd.R_reads' HO783.out).2.2 | (with_reducible refine Kd.C_alloc ?_ _) | (with_reducible refine Kd.C_drewN ?_ _) | (with_reducible refine Kd.C_drew ?_)))
       (case aB => exact (mBs HB.out))
       (case aF => exact (fun k_ hk => ⟨Kd.fresh' (Kd.R_lt (mR HO783.out)) k_ hk, Kd.freshB (g := gb777) (o := .cells #[.int .i64 a3_0, .int .i64 a3_1] 52 (0, 0)) (mBK BK777.out) k_ hk⟩))
       (case aO => exact (by (with_reducible repeat (first | apply Kd.R_alloc | apply Kd.R_drewN | apply Kd.R_drew)); exact Kd.R_mono HO789.out (fun _ hk => ⟨hk.1.2, hk.2⟩)))
       (case aS => exact (below_size (mBs HB.out)))
       (case aL => have := LMc8.out; omega)
       intro v791 w71 ho hb hg hat
       rw [← Ny790.out] at ho
       have n0_ := Aside0.mk (blk_grown (g := gb777) (o := .cells #[.int .i64 a3_0, .int .i64 a3_1] 52 (0, 0)) (mBK BK777.out) hg (Kd.R_away HO789.out (fun _ hk => hk.2)))
       have n1_ := Aside0.mk (Kd.R_over' (mR HO780.out) (Kd.R_typed (mR HO789.out)) (by decide) hg)
       have n2_ := Aside0.mk (Kd.R_after (ok := (fun k_ => k_ ≠ gb777)) (by (with_reducible repeat (first | apply Kd.R_alloc | apply Kd.R_drewN | apply Kd.R_drew)); exact Kd.R_mono HO783.out (fun _ hk => ⟨hk.1.2, hk.2⟩)) hg hat)
       have n3_ := Aside0.mk (Kd.V_afterv (ok := (fun k_ => some k_ ≠ (.slice Ao65 t778.length co65 : Value).ownBlock ∧ some k_ ≠ (.slice Ao66 t781.length co66 : Value).ownBlock ∧ k_ ≠ gb777)) (mV HO786.out) hg hat)
       have n4_ := Aside0.mk (hb)
       have n5_ := Aside0.mk (ho)
       clear BK777; clear HO780; clear HO783; clear HO786; clear HB; clear HO789
       have BK777 := n0_
       have HO780 := n1_
       have HO783 := n2_
       have HO786 := n3_
       have HB := n4_
       have HO792 := n5_
       clear n0_; clear n1_; clear n2_; clear n3_; clear n4_; clear n5_; clear ho; clear hb; clear hg; clear hat
       refine hK.out _ _ ⟨(blk_cell BK777.out 0).trans rfl, (blk_cell BK777.out 1).trans rfl⟩ (fun hHeld => ?_)
       clear hK; clear K
       refine norm_ (a' := ?_) ?_ ?_
       rotate_left
       ·show Act.put _ (some 29) _ = _
        simp only [Act.put, List.setIfInBounds_toArray, List.set_cons_zero, List.set_cons_succ, i64_w, i32_w]
        rfl
       refine one_ (i := 6) (N := some 31) #[true, true, true, true, true, true, true, false, false, false, false] rfl rfl (one_of HT_.out (by kernel_rfl)) (by decide) (fun K hK => ?_)
       refine Kd.R_lit_step k52 _ 52 ?hg (N := 31) ?hd (xs := ([(⟨a3_0, a3_1⟩ : S52)] : List (S52))) (inner := [.int .i64 a3_0, .int .i64 a3_1]) (ok := fun _ => True) (okp := fun _ => True) ?hr ?hp (fun _ hk => hk) trivial (Below.refl _ _) (Nat.le_refl _) (by simp) ?_; (case hd => rfl); (case hg => rfl); (case hr => first | (go_simp; done) | (go_simp; rfl)); (case hp => exact (Reps.c2 (show Kd.M k52 _ _ _ (⟨a3_0, a3_1⟩ : S52) [.int .i64 a3_0, .int .i64 a3_1] from (k52_mkM _ _ _ (⟨a3_0, a3_1⟩ : S52) )) (Reps.none _ _)))
       intro v794 w72 ho73 hb hg_ hnew_
       clear hg_; clear hnew_
       (first | rw [← Ny793.out] at ho73 | (simp only [Int.reduceToNat] at ho73; rw [← Ny793.out] at ho73))
       have n0_ := Aside0.mk (Kd.R_below (mR HO780.out) hb)
       have n1_ := Aside0.mk (Kd.R_elder' (mR HO783.out) (Kd.R_base ho73) hb)
       have n2_ := Aside0.mk (Kd.V_elder' (mV HO786.out) (Kd.R_base ho73) hb)
       have n3_ := Aside0.mk (Kd.R_elder' (mR HO792.out) (Kd.R_base ho73) hb)
       have n4_ := Aside0.mk (Kd.R_lower (Kd.R_newB (Kd.R_new' (Kd.R_new' ho73 (Kd.R_lt (mR HO783.out))) (Kd.R_lt (mR HO792.out))) (g := gb777) (o := .cells #[.int .i64 a3_0, .int .i64 a3_1] 52 (0, 0)) (mBK BK777.out)) (below_size (mBs HB.out)))
       have n5_ := Aside0.mk (blk_below (g := gb777) (o := .cells #[.int .i64 a3_0, .int .i64 a3_1] 52 (0, 0)) (mBK BK777.out) hb)
       have n6_ := Aside0.mk (below_step (mBs HB.out) hb)
       clear HO780; clear HO783; clear HO786; clear HO792; clear BK777; clear HB
       have HO780 := n0_
       have HO783 := n1_
       have HO786 := n2_
       have HO792 := n3_
       have HO795 := n4_
       have BK777 := n5_
       have HB := n6_
       clear n0_; clear n1_; clear n2_; clear n3_; clear n4_; clear n5_; clear n6_; clear hb; clear ho73
       refine hK.out _ _ ⟨(blk_cell BK777.out 0).trans rfl, (blk_cell BK777.out 1).trans rfl⟩ (fun hHeld => ?_)
       clear hK; clear K
       refine norm_ (a' := ?_) ?_ ?_
       rotate_left
       ·show Act.put _ (some 31) _ = _
        simp only [Act.put, List.setIfInBounds_toArray, List.set_cons_zero, List.set_cons_succ, i64_w, i32_w]
        rfl
       exact norm_ (by simp only [putAll, Act.put, List.setIfInBounds_toArray, List.set_cons_zero, List.set_cons_succ]) (hCont (v788, v791, v794) _ ⟨hHeld, (mR HO780.out), (by (with_reducible repeat (first | apply Kd.R_alloc | apply Kd.R_drewN | apply Kd.R_drew)); exact Kd.R_mono HO783.out (fun _ hk => ⟨hk.1.2, ⟨hk.2, hk.1.1⟩⟩)), (by (with_reducible repeat (first | apply Kd.V_alloc | apply Kd.V_drewN | apply Kd.V_drew)); exact Kd.V_mono HO786.out (fun _ hk => ⟨hk.1.1.1, ⟨hk.1.1.2.1, ⟨hk.1.2, ⟨hk.2, hk.1.1.2.2⟩⟩⟩⟩)), (by (with_reducible repeat (first | apply Kd.R_alloc | apply Kd.R_drewN | apply Kd.R_drew)); exact Kd.R_mono HO792.out (fun _ hk => ⟨hk.1.1, ⟨hk.2, hk.1.2⟩⟩)), (by (with_reducible repeat (first | apply Kd.R_alloc | apply Kd.R_drewN | apply Kd.R_drew)); exact Kd.R_mono HO795.out (fun _ hk => ⟨hk.1.1.2, ⟨hk.1.2, hk.2⟩⟩)), (mBK BK777.out), (mBs HB.out)⟩)
      ·skip
       refine Kd.R_lit_step k52 _ 52 ?hg (N := 31) ?hd (xs := ([(⟨a3_0, a3_1⟩ : S52)] : List (S52))) (inner := [.int .i64 a3_0, .int .i64 a3_1]) (ok := fun _ => True) (okp := fun _ => True) ?hr ?hp (fun _ hk => hk) trivial (Below.refl _ _) (Nat.le_refl _) (by simp) ?_; (case hd => rfl); (case hg => rfl); (case hr => first | (go_simp; done) | (go_simp; rfl)); (case hp => exact (Reps.c2 (show Kd.M k52 _ _ _ (⟨a3_0, a3_1⟩ : S52) [.int .i64 a3_0, .int .i64 a3_1] from (k52_mkM _ _ _ (⟨a3_0, a3_1⟩ : S52) )) (Reps.none _ _)))
       intro v794 w71 ho72 hb hg_ hnew_
       clear hg_; clear hnew_
       (first | rw [← Ny793.out] at ho72 | (simp only [Int.reduceToNat] at ho72; rw [← Ny793.out] at ho72))
       have n0_ := Aside0.mk (Kd.R_below (mR HO780.out) hb)
       have n1_ := Aside0.mk (Kd.R_elder' (mR HO783.out) (Kd.R_base ho72) hb)
       have n2_ := Aside0.mk (Kd.V_elder' (mV HO786.out) (Kd.R_base ho72) hb)
       have n3_ := Aside0.mk (Kd.R_elder' (mR HO789.out) (Kd.R_base ho72) hb)
       have n4_ := Aside0.mk (Kd.R_lower (Kd.R_newB (Kd.R_new' (Kd.R_new' ho72 (Kd.R_lt (mR HO783.out))) (Kd.R_lt (mR HO789.out))) (g := gb777) (o := .cells #[.int .i64 a3_0, .int .i64 a3_1] 52 (0, 0)) (mBK BK777.out)) (below_size (mBs HB.out)))
       have n5_ := Aside0.mk (blk_below (g := gb777) (o := .cells #[.int .i64 a3_0, .int .i64 a3_1] 52 (0, 0)) (mBK BK777.out) hb)
       have n6_ := Aside0.mk (below_step (mBs HB.out) hb)
       clear HO780; clear HO783; clear HO786; clear HO789; clear BK777; clear HB
       have HO780 := n0_
       have HO783 := n1_
       have HO786 := n2_
       have HO789 := n3_
       have HO795 := n4_
       have BK777 := n5_
       have HB := n6_
       clear n0_; clear n1_; clear n2_; clear n3_; clear n4_; clear n5_; clear n6_; clear hb; clear ho72
       refine hK.out _ _ ⟨(blk_cell BK777.out 0).trans rfl, (blk_cell BK777.out 1).trans rfl⟩ (fun hHeld => ?_)
       clear hK; clear K
       refine norm_ (a' := ?_) ?_ ?_
       rotate_left
       ·show Act.put _ (some 31) _ = _
        simp only [Act.put, List.setIfInBounds_toArray, List.set_cons_zero, List.set_cons_succ, i64_w, i32_w]
        rfl
       refine one_ (i := 4) (N := some 29) #[true, true, true, true, true, true, true, false, false, false, false] rfl rfl (one_of HT_.out (by kernel_rfl)) (by decide) (fun K hK => ?_)
       refine Kd.R_append_rows_step k52 (w0 := w) w.heap.size (by rfl) (.tmp 27) (.tmp 28) 44 52 (.agg #[(.int .i64 0), (.int .i64 0)]) 16 rfl Try.underlying44 info52 rfl (by decide) (by omega) v788 y787 t781 _ _ _ (fun k_ => some k_ ≠ (.slice Ao66 t781.length co66 : Value).ownBlock ∧ some k_ ≠ (v794 : Value).ownBlock ∧ k_ ≠ gb777) (fun _ => False) rfl rfl ?aO ?aR (fun _ _ h => h) (fun _ h => h.elim) ?aF ?aB ?aS ?aL ?_
       (case aR => repeat (first | exact (Kd.R_reads' HO783.out).2.2 | (with_reducible refine Kd.C_alloc ?_ _) | (with_reducible refine Kd.C_drewN ?_ _) | (with_reducible refine Kd.C_drew ?_)))
       (case aB => exact (mBs HB.out))
       (case aF => exact (fun k_ hk => ⟨Kd.fresh' (Kd.R_lt (mR HO783.out)) k_ hk, Kd.fresh' (Kd.R_lt (mR HO795.out)) k_ hk, Kd.freshB (g := gb777) (o := .cells #[.int .i64 a3_0, .int .i64 a3_1] 52 (0, 0)) (mBK BK777.out) k_ hk⟩))
       (case aO => exact (by (with_reducible repeat (first | apply Kd.R_alloc | apply Kd.R_drewN | apply Kd.R_drew)); exact Kd.R_mono HO789.out (fun _ hk => ⟨hk.1.1.2, ⟨hk.2, hk.1.2⟩⟩)))
       (case aS => exact (below_size (mBs HB.out)))
       (case aL => have := LMc8.out; omega)
       intro v791 w73 ho hb hg hat
       rw [← Ny790.out] at ho
       have n0_ := Aside0.mk (blk_grown (g := gb777) (o := .cells #[.int .i64 a3_0, .int .i64 a3_1] 52 (0, 0)) (mBK BK777.out) hg (Kd.R_away HO789.out (fun _ hk => hk.1.2)))
       have n1_ := Aside0.mk (Kd.R_over' (mR HO780.out) (Kd.R_typed (mR HO789.out)) (by decide) hg)
       have n2_ := Aside0.mk (Kd.R_after (ok := (fun k_ => some k_ ≠ (v794 : Value).ownBlock ∧ k_ ≠ gb777)) (by (with_reducible repeat (first | apply Kd.R_alloc | apply Kd.R_drewN | apply Kd.R_drew)); exact Kd.R_mono HO783.out (fun _ hk => ⟨⟨hk.2, hk.1.1.2⟩, hk.1.2⟩)) hg hat)
       have n3_ := Aside0.mk (Kd.V_afterv (ok := (fun k_ => some k_ ≠ (.slice Ao65 t778.length co65 : Value).ownBlock ∧ some k_ ≠ (.slice Ao66 t781.length co66 : Value).ownBlock ∧ some k_ ≠ (v794 : Value).ownBlock ∧ k_ ≠ gb777)) (by (with_reducible repeat (first | apply Kd.V_alloc | apply Kd.V_drewN | apply Kd.V_drew)); exact Kd.V_mono HO786.out (fun _ hk => ⟨⟨hk.1.1.1, ⟨hk.1.1.2.1, ⟨hk.2, hk.1.1.2.2⟩⟩⟩, hk.1.2⟩)) hg hat)
       have n4_ := Aside0.mk (Kd.R_after (ok := (fun k_ => some k_ ≠ (.slice Ao66 t781.length co66 : Value).ownBlock ∧ k_ ≠ gb777)) (by (with_reducible repeat (first | apply Kd.R_alloc | apply Kd.R_drewN | apply Kd.R_drew)); exact Kd.R_mono HO795.out (fun _ hk => ⟨⟨hk.1.1.2, hk.2⟩, hk.1.2⟩)) hg hat)
       have n5_ := Aside0.mk (hb)
       have n6_ := Aside0.mk (ho)
       clear BK777; clear HO780; clear HO783; clear HO786; clear HO795; clear HB; clear HO789
       have BK777 := n0_
       have HO780 := n1_
       have HO783 := n2_
       have HO786 := n3_
       have HO795 := n4_
       have HB := n5_
       have HO792 := n6_
       clear n0_; clear n1_; clear n2_; clear n3_; clear n4_; clear n5_; clear n6_; clear ho; clear hb; clear hg; clear hat
       refine hK.out _ _ ⟨(blk_cell BK777.out 0).trans rfl, (blk_cell BK777.out 1).trans rfl⟩ (fun hHeld => ?_)
       clear hK; clear K
       refine norm_ (a' := ?_) ?_ ?_
       rotate_left
       ·show Act.put _ (some 29) _ = _
        simp only [Act.put, List.setIfInBounds_toArray, List.set_cons_zero, List.set_cons_succ, i64_w, i32_w]
        rfl
       exact norm_ (by simp only [putAll, Act.put, List.setIfInBounds_toArray, List.set_cons_zero, List.set_cons_succ]) (hCont (v788, v791, v794) _ ⟨hHeld, (mR HO780.out), (by (with_reducible repeat (first | apply Kd.R_alloc | apply Kd.R_drewN | apply Kd.R_drew)); exact Kd.R_mono HO783.out (fun _ hk => ⟨hk.2, ⟨hk.1.1, hk.1.2⟩⟩)), (by (with_reducible repeat (first | apply Kd.V_alloc | apply Kd.V_drewN | apply Kd.V_drew)); exact Kd.V_mono HO786.out (fun _ hk => ⟨hk.1.1, ⟨hk.1.2.1, ⟨hk.2, ⟨hk.1.2.2.1, hk.1.2.2.2⟩⟩⟩⟩)), (mR HO792.out), (by (with_reducible repeat (first | apply Kd.R_alloc | apply Kd.R_drewN | apply Kd.R_drew)); exact Kd.R_mono HO795.out (fun _ hk => ⟨hk.1.1, ⟨hk.2, hk.1.2⟩⟩)), (mBK BK777.out), (mBs HB.out)⟩)
     ·skip
      refine Kd.R_lit_step k52 _ 52 ?hg (N := 31) ?hd (xs := ([(⟨a3_0, a3_1⟩ : S52)] : List (S52))) (inner := [.int .i64 a3_0, .int .i64 a3_1]) (ok := fun _ => True) (okp := fun _ => True) ?hr ?hp (fun _ hk => hk) trivial (Below.refl _ _) (Nat.le_refl _) (by simp) ?_; (case hd => rfl); (case hg => rfl); (case hr => first | (go_simp; done) | (go_simp; rfl)); (case hp => exact (Reps.c2 (show Kd.M k52 _ _ _ (⟨a3_0, a3_1⟩ : S52) [.int .i64 a3_0, .int .i64 a3_1] from (k52_mkM _ _ _ (⟨a3_0, a3_1⟩ : S52) )) (Reps.none _ _)))
      intro v794 w69 ho70 hb hg_ hnew_
      clear hg_; clear hnew_
      (first | rw [← Ny793.out] at ho70 | (simp only [Int.reduceToNat] at ho70; rw [← Ny793.out] at ho70))
      have n0_ := Aside0.mk (Kd.R_below (mR HO780.out) hb)
      have n1_ := Aside0.mk (Kd.R_elder' (mR HO783.out) (Kd.R_base ho70) hb)
      have n2_ := Aside0.mk (Kd.V_elder' (mV HO786.out) (Kd.R_base ho70) hb)
      have n3_ := Aside0.mk (Kd.R_lower (Kd.R_newB (Kd.R_new' ho70 (Kd.R_lt (mR HO783.out))) (g := gb777) (o := .cells #[.int .i64 a3_0, .int .i64 a3_1] 52 (0, 0)) (mBK BK777.out)) (below_size (mBs HB.out)))
      have n4_ := Aside0.mk (blk_below (g := gb777) (o := .cells #[.int .i64 a3_0, .int .i64 a3_1] 52 (0, 0)) (mBK BK777.out) hb)
      have n5_ := Aside0.mk (below_step (mBs HB.out) hb)
      clear HO780; clear HO783; clear HO786; clear BK777; clear HB
      have HO780 := n0_
      have HO783 := n1_
      have HO786 := n2_
      have HO795 := n3_
      have BK777 := n4_
      have HB := n5_
      clear n0_; clear n1_; clear n2_; clear n3_; clear n4_; clear n5_; clear hb; clear ho70
      refine hK.out _ _ ⟨(blk_cell BK777.out 0).trans rfl, (blk_cell BK777.out 1).trans rfl⟩ (fun hHeld => ?_)
      clear hK; clear K
      refine norm_ (a' := ?_) ?_ ?_
      rotate_left
      ·show Act.put _ (some 31) _ = _
       simp only [Act.put, List.setIfInBounds_toArray, List.set_cons_zero, List.set_cons_succ, i64_w, i32_w]
       rfl
      refine one_ (i := 2) (N := some 27) #[true, true, true, true, false, true, true, false, false, false, false] rfl rfl (one_of HT_.out (by kernel_rfl)) (by decide) (fun K hK => ?_)
      refine Kd.R_lit_step k52 _ 52 ?hg (N := 27) ?hd (xs := ([] : List (S52))) (inner := []) (ok := fun _ => True) (okp := fun _ => True) ?hr ?hp (fun _ hk => hk) trivial (Below.refl _ _) (Nat.le_refl _) (by simp) ?_; (case hd => rfl); (case hg => rfl); (case hr => first | (go_simp; done) | (go_simp; rfl)); (case hp => exact (Reps.none _ _))
      intro v788 w71 ho72 hb hg_ hnew_
      clear hg_; clear hnew_
      (first | rw [← Ny787.out] at ho72 | (simp only [Int.reduceToNat] at ho72; rw [← Ny787.out] at ho72))
      have n0_ := Aside0.mk (Kd.R_below (mR HO780.out) hb)
      have n1_ := Aside0.mk (Kd.R_elder' (mR HO783.out) (Kd.R_base ho72) hb)
      have n2_ := Aside0.mk (Kd.V_elder' (mV HO786.out) (Kd.R_base ho72) hb)
      have n3_ := Aside0.mk (Kd.R_elder' (mR HO795.out) (Kd.R_base ho72) hb)
      have n4_ := Aside0.mk (Kd.R_lower (Kd.R_newB (Kd.R_new' (Kd.R_new' ho72 (Kd.R_lt (mR HO783.out))) (Kd.R_lt (mR HO795.out))) (g := gb777) (o := .cells #[.int .i64 a3_0, .int .i64 a3_1] 52 (0, 0)) (mBK BK777.out)) (below_size (mBs HB.out)))
      have n5_ := Aside0.mk (blk_below (g := gb777) (o := .cells #[.int .i64 a3_0, .int .i64 a3_1] 52 (0, 0)) (mBK BK777.out) hb)
      have n6_ := Aside0.mk (below_step (mBs HB.out) hb)
      clear HO780; clear HO783; clear HO786; clear HO795; clear BK777; clear HB
      have HO780 := n0_
      have HO783 := n1_
      have HO786 := n2_
      have HO795 := n3_
      have HO789 := n4_
      have BK777 := n5_
      have HB := n6_
      clear n0_; clear n1_; clear n2_; clear n3_; clear n4_; clear n5_; clear n6_; clear hb; clear ho72
      refine hK.out _ _ ⟨(blk_cell BK777.out 0).trans rfl, (blk_cell BK777.out 1).trans rfl⟩ (fun hHeld => ?_)
      clear hK; clear K
      refine norm_ (a' := ?_) ?_ ?_
      rotate_left
      ·show Act.put _ (some 27) _ = _
       simp only [Act.put, List.setIfInBounds_toArray, List.set_cons_zero, List.set_cons_succ, i64_w, i32_w]
       rfl
      refine one_ (i := 4) (N := some 29) #[true, true, true, true, true, true, true, false, false, false, false] rfl rfl (one_of HT_.out (by kernel_rfl)) (by decide) (fun K hK => ?_)
      refine Kd.R_append_rows_step k52 (w0 := w) w.heap.size (by rfl) (.tmp 27) (.tmp 28) 44 52 (.agg #[(.int .i64 0), (.int .i64 0)]) 16 rfl Try.underlying44 info52 rfl (by decide) (by omega) v788 y787 t781 _ _ _ (fun k_ => some k_ ≠ (.slice Ao66 t781.length co66 : Value).ownBlock ∧ some k_ ≠ (v794 : Value).ownBlock ∧ k_ ≠ gb777) (fun _ => False) rfl rfl ?aO ?aR (fun _ _ h => h) (fun _ h => h.elim) ?aF ?aB ?aS ?aL ?_
      (case aR => repeat (first | exact (Kd.R_reads' HO783.out).2.2 | (with_reducible refine Kd.C_alloc ?_ _) | (with_reducible refine Kd.C_drewN ?_ _) | (with_reducible refine Kd.C_drew ?_)))
      (case aB => exact (mBs HB.out))
      (case aF => exact (fun k_ hk => ⟨Kd.fresh' (Kd.R_lt (mR HO783.out)) k_ hk, Kd.fresh' (Kd.R_lt (mR HO795.out)) k_ hk, Kd.freshB (g := gb777) (o := .cells #[.int .i64 a3_0, .int .i64 a3_1] 52 (0, 0)) (mBK BK777.out) k_ hk⟩))
      (case aO => exact (by (with_reducible repeat (first | apply Kd.R_alloc | apply Kd.R_drewN | apply Kd.R_drew)); exact Kd.R_mono HO789.out (fun _ hk => ⟨hk.1.1.2, ⟨hk.1.2, hk.2⟩⟩)))
      (case aS => exact (below_size (mBs HB.out)))
      (case aL => have := LMc8.out; omega)
      intro v791 w73 ho hb hg hat
      rw [← Ny790.out] at ho
      have n0_ := Aside0.mk (blk_grown (g := gb777) (o := .cells #[.int .i64 a3_0, .int .i64 a3_1] 52 (0, 0)) (mBK BK777.out) hg (Kd.R_away HO789.out (fun _ hk => hk.2)))
      have n1_ := Aside0.mk (Kd.R_over' (mR HO780.out) (Kd.R_typed (mR HO789.out)) (by decide) hg)
      have n2_ := Aside0.mk (Kd.R_after (ok := (fun k_ => some k_ ≠ (v794 : Value).ownBlock ∧ k_ ≠ gb777)) (by (with_reducible repeat (first | apply Kd.R_alloc | apply Kd.R_drewN | apply Kd.R_drew)); exact Kd.R_mono HO783.out (fun _ hk => ⟨⟨hk.1.2, hk.1.1.2⟩, hk.2⟩)) hg hat)
      have n3_ := Aside0.mk (Kd.V_afterv (ok := (fun k_ => some k_ ≠ (.slice Ao65 t778.length co65 : Value).ownBlock ∧ some k_ ≠ (.slice Ao66 t781.length co66 : Value).ownBlock ∧ some k_ ≠ (v794 : Value).ownBlock ∧ k_ ≠ gb777)) (by (with_reducible repeat (first | apply Kd.V_alloc | apply Kd.V_drewN | apply Kd.V_drew)); exact Kd.V_mono HO786.out (fun _ hk => ⟨⟨hk.1.1.1, ⟨hk.1.1.2.1, ⟨hk.1.2, hk.1.1.2.2⟩⟩⟩, hk.2⟩)) hg hat)
      have n4_ := Aside0.mk (Kd.R_after (ok := (fun k_ => some k_ ≠ (.slice Ao66 t781.length co66 : Value).ownBlock ∧ k_ ≠ gb777)) (by (with_reducible repeat (first | apply Kd.R_alloc | apply Kd.R_drewN | apply Kd.R_drew)); exact Kd.R_mono HO795.out (fun _ hk => ⟨⟨hk.1.1.2, hk.1.2⟩, hk.2⟩)) hg hat)
      have n5_ := Aside0.mk (hb)
      have n6_ := Aside0.mk (ho)
      clear BK777; clear HO780; clear HO783; clear HO786; clear HO795; clear HB; clear HO789
      have BK777 := n0_
      have HO780 := n1_
      have HO783 := n2_
      have HO786 := n3_
      have HO795 := n4_
      have HB := n5_
      have HO792 := n6_
      clear n0_; clear n1_; clear n2_; clear n3_; clear n4_; clear n5_; clear n6_; clear ho; clear hb; clear hg; clear hat
      refine hK.out _ _ ⟨(blk_cell BK777.out 0).trans rfl, (blk_cell BK777.out 1).trans rfl⟩ (fun hHeld => ?_)
      clear hK; clear K
      refine norm_ (a' := ?_) ?_ ?_
      rotate_left
      ·show Act.put _ (some 29) _ = _
       simp only [Act.put, List.setIfInBounds_toArray, List.set_cons_zero, List.set_cons_succ, i64_w, i32_w]
       rfl
      exact norm_ (by simp only [putAll, Act.put, List.setIfInBounds_toArray, List.set_cons_zero, List.set_cons_succ]) (hCont (v788, v791, v794) _ ⟨hHeld, (mR HO780.out), (by (with_reducible repeat (first | apply Kd.R_alloc | apply Kd.R_drewN | apply Kd.R_drew)); exact Kd.R_mono HO783.out (fun _ hk => ⟨hk.2, ⟨hk.1.1, hk.1.2⟩⟩)), (by (with_reducible repeat (first | apply Kd.V_alloc | apply Kd.V_drewN | apply Kd.V_drew)); exact Kd.V_mono HO786.out (fun _ hk => ⟨hk.1.1, ⟨hk.1.2.1, ⟨hk.2, ⟨hk.1.2.2.1, hk.1.2.2.2⟩⟩⟩⟩)), (mR HO792.out), (by (with_reducible repeat (first | apply Kd.R_alloc | apply Kd.R_drewN | apply Kd.R_drew)); exact Kd.R_mono HO795.out (fun _ hk => ⟨hk.1.1, ⟨hk.2, hk.1.2⟩⟩)), (mBK BK777.out), (mBs HB.out)⟩)
    rintro ⟨v788, v791, v794⟩ w74 ⟨hS_, h0_, h1_, h2_, h3_, h4_, h5_, h6_⟩
    have n0_ : Aside0 (Kd.R k38 38 w74 w.heap.size (fun _ => True) (.slice Ao65 t778.length co65) t778) := ⟨h0_⟩
    have n1_ : Aside0 (Kd.R k52 52 w74 w.heap.size (fun k_ => some k_ ≠ (v791 : Value).ownBlock ∧ some k_ ≠ (v794 : Value).ownBlock ∧ k_ ≠ gb777) (.slice Ao66 t781.length co66) t781) := ⟨h1_⟩
    have n2_ : Aside0 (Kd.V (Kd.int .i64) 3 w74 w.heap.size (fun k_ => some k_ ≠ (.slice Ao65 t778.length co65 : Value).ownBlock ∧ some k_ ≠ (.slice Ao66 t781.length co66 : Value).ownBlock ∧ some k_ ≠ (v791 : Value).ownBlock ∧ some k_ ≠ (v794 : Value).ownBlock ∧ k_ ≠ gb777) v785 t784) := ⟨h2_⟩
    have n3_ : Aside0 (Kd.R k52 52 w74 w.heap.size (fun k_ => some k_ ≠ (.slice Ao66 t781.length co66 : Value).ownBlock ∧ some k_ ≠ (v794 : Value).ownBlock ∧ k_ ≠ gb777) v791 y790) := ⟨h3_⟩
    have n4_ : Aside0 (Kd.R k52 52 w74 w.heap.size (fun k_ => some k_ ≠ (.slice Ao66 t781.length co66 : Value).ownBlock ∧ some k_ ≠ (v791 : Value).ownBlock ∧ k_ ≠ gb777) v794 y793) := ⟨h4_⟩
    have n5_ : Aside0 (w74.heap[gb777]? = some (.cells #[.int .i64 a3_0, .int .i64 a3_1] 52 (0, 0))) := ⟨h5_⟩
    have n6_ : Aside0 (Below w.heap.size w w74) := ⟨h6_⟩
    clear HO780; clear HO783; clear HO786; clear BK777; clear HB; clear h0_; clear h1_; clear h2_; clear h3_; clear h4_; clear h5_; clear h6_
    have HO780 := n0_
    have HO783 := n1_
    have HO786 := n2_
    have HO792 := n3_
    have HO795 := n4_
    have BK777 := n5_
    have HB := n6_
    clear n0_; clear n1_; clear n2_; clear n3_; clear n4_; clear n5_; clear n6_
    have hHeld : w74.cell? ⟨gb777, 0, none⟩ = some (.int .i64 a3_0) ∧ w74.cell? ⟨gb777, 1, none⟩ = some (.int .i64 a3_1) := hS_
    obtain ⟨Ao75, co75, eo75⟩ := Kd.R_slice HO795.out
    (first | subst eo75 | (injection eo75 with f1_ f2_ f3_; have f4_ := f1_.symm; have f5_ := f3_.symm; clear f1_ f2_ f3_; subst f4_; subst f5_))
    refine norm_ (a' := ?_) ?_ ?_
    rotate_left
    ·simp only [putAll, Act.put, List.setIfInBounds_toArray, List.set_cons_zero, List.set_cons_succ]
     rfl
    refine one_ (i := 7) (N := some 32) #[true, true, true, true, true, true, true, true, false, false, false] rfl rfl (one_of HT_.out (by kernel_rfl)) (by decide) (fun K hK => ?_)
    refine goes_ Try.func32 (by kernel_rfl) rfl #[.slice Ao75 y793.length co75] (by rfl) rfl rfl mt ?_
    with_reducible refine (prebendref18_Asks.calls k _ _ y793 t796 _ ?side1 ?side2 A9.out).mono ?_
    (case side1 => exact mC (Kd.R_reads' HO795.out).2.2)
    (case side2 => exact (Kd.R_reads' HO795.out).2.1)
    rintro e w76 ⟨v797, rfl, ho0, hb⟩
    refine ⟨_, rfl, ?_⟩
    have n0_ := Aside0.mk (Kd.R_below (mR HO780.out) hb)
    have n1_ := Aside0.mk (Kd.R_elder' (mR HO783.out) (Kd.R_base ho0) hb)
    have n2_ := Aside0.mk (Kd.V_elder' (mV HO786.out) (Kd.R_base ho0) hb)
    have n3_ := Aside0.mk (Kd.R_elder' (mR HO792.out) (Kd.R_base ho0) hb)
    have n4_ := Aside0.mk (Kd.R_elder' (mR HO795.out) (Kd.R_base ho0) hb)
    have n5_ := Aside0.mk (Kd.R_lower (Kd.R_newB (Kd.R_new' (Kd.R_new' (Kd.R_new' ho0 (Kd.R_lt (mR HO783.out))) (Kd.R_lt (mR HO792.out))) (Kd.R_lt (mR HO795.out))) (g := gb777) (o := .cells #[.int .i64 a3_0, .int .i64 a3_1] 52 (0, 0)) (mBK BK777.out)) (below_size (mBs HB.out)))
    have n6_ := Aside0.mk (blk_below (g := gb777) (o := .cells #[.int .i64 a3_0, .int .i64 a3_1] 52 (0, 0)) (mBK BK777.out) hb)
    have n7_ := Aside0.mk (below_step (mBs HB.out) hb)
    clear HO780; clear HO783; clear HO786; clear HO792; clear HO795; clear BK777; clear HB
    have HO780 := n0_
    have HO783 := n1_
    have HO786 := n2_
    have HO792 := n3_
    have HO795 := n4_
    have HO798 := n5_
    have BK777 := n6_
    have HB := n7_
    clear n0_; clear n1_; clear n2_; clear n3_; clear n4_; clear n5_; clear n6_; clear n7_
    (try clear hb); (try clear hb2); (try clear hk); (try clear hi); (try clear ho0)
    obtain ⟨Ao78, co78, eo78⟩ := Kd.R_slice HO798.out
    (first | subst eo78 | (injection eo78 with f1_ f2_ f3_; have f4_ := f1_.symm; have f5_ := f3_.symm; clear f1_ f2_ f3_; subst f4_; subst f5_))
    refine hK.out _ _ ⟨(blk_cell BK777.out 0).trans rfl, (blk_cell BK777.out 1).trans rfl⟩ (fun hHeld => ?_)
    clear hK; clear K
    refine norm_ (a' := ?_) ?_ ?_
    rotate_left
    ·show Act.put _ (some 32) _ = _
     simp only [Act.put, List.setIfInBounds_toArray, List.set_cons_zero, List.set_cons_succ, i64_w, i32_w]
     rfl
    refine one_ (i := 8) (N := some 33) #[true, true, true, true, true, true, true, true, true, false, false] rfl rfl (one_of HT_.out (by kernel_rfl)) (by decide) (fun K hK => ?_)
    refine Kd.R_append_rows_step k52 (w0 := w) w.heap.size (by rfl) (.tmp 29) (.tmp 32) 44 52 (.agg #[(.int .i64 0), (.int .i64 0)]) 16 rfl Try.underlying44 info52 rfl (by decide) (by omega) v791 y790 t796 _ _ _ (fun k_ => some k_ ≠ (.slice Ao66 t781.length co66 : Value).ownBlock ∧ some k_ ≠ (.slice Ao75 y793.length co75 : Value).ownBlock ∧ some k_ ≠ (.slice Ao78 t796.length co78 : Value).ownBlock ∧ k_ ≠ gb777) (fun _ => False) rfl rfl ?aO ?aR (fun _ _ h => h) (fun _ h => h.elim) ?aF ?aB ?aS ?aL ?_
    (case aR => repeat (first | exact (Kd.R_reads' HO798.out).2.2 | (with_reducible refine Kd.C_alloc ?_ _) | (with_reducible refine Kd.C_drewN ?_ _) | (with_reducible refine Kd.C_drew ?_)))
    (case aB => exact (mBs HB.out))
    (case aF => exact (fun k_ hk => ⟨Kd.fresh' (Kd.R_lt (mR HO783.out)) k_ hk, Kd.fresh' (Kd.R_lt (mR HO795.out)) k_ hk, Kd.fresh' (Kd.R_lt (mR HO798.out)) k_ hk, Kd.freshB (g := gb777) (o := .cells #[.int .i64 a3_0, .int .i64 a3_1] 52 (0, 0)) (mBK BK777.out) k_ hk⟩))
    (case aO => exact (by (with_reducible repeat (first | apply Kd.R_alloc | apply Kd.R_drewN | apply Kd.R_drew)); exact Kd.R_mono HO792.out (fun _ hk => ⟨hk.1.1, ⟨hk.1.2.1, ⟨hk.2, hk.1.2.2⟩⟩⟩)))
    (case aS => exact (below_size (mBs HB.out)))
    (case aL => have := LMc10.out; omega)
    intro v800 w77 ho hb hg hat
    rw [← Ny799.out] at ho
    have n0_ := Aside0.mk (blk_grown (g := gb777) (o := .cells #[.int .i64 a3_0, .int .i64 a3_1] 52 (0, 0)) (mBK BK777.out) hg (Kd.R_away HO792.out (fun _ hk => hk.1.2.2)))
    have n1_ := Aside0.mk (Kd.R_over' (mR HO780.out) (Kd.R_typed (mR HO792.out)) (by decide) hg)
    have n2_ := Aside0.mk (Kd.R_after (ok := (fun k_ => some k_ ≠ (.slice Ao75 y793.length co75 : Value).ownBlock ∧ some k_ ≠ (.slice Ao78 t796.length co78 : Value).ownBlock ∧ k_ ≠ gb777)) (by (with_reducible repeat (first | apply Kd.R_alloc | apply Kd.R_drewN | apply Kd.R_drew)); exact Kd.R_mono HO783.out (fun _ hk => ⟨⟨hk.1.2.1, ⟨hk.2, hk.1.2.2⟩⟩, hk.1.1⟩)) hg hat)
    have n3_ := Aside0.mk (Kd.V_afterv (ok := (fun k_ => some k_ ≠ (.slice Ao65 t778.length co65 : Value).ownBlock ∧ some k_ ≠ (.slice Ao66 t781.length co66 : Value).ownBlock ∧ some k_ ≠ (.slice Ao75 y793.length co75 : Value).ownBlock ∧ some k_ ≠ (.slice Ao78 t796.length co78 : Value).ownBlock ∧ k_ ≠ gb777)) (by (with_reducible repeat (first | apply Kd.V_alloc | apply Kd.V_drewN | apply Kd.V_drew)); exact Kd.V_mono HO786.out (fun _ hk => ⟨⟨hk.1.1, ⟨hk.1.2.1, ⟨hk.1.2.2.2.1, ⟨hk.2, hk.1.2.2.2.2⟩⟩⟩⟩, hk.1.2.2.1⟩)) hg hat)
    have n4_ := Aside0.mk (Kd.R_after (ok := (fun k_ => some k_ ≠ (.slice Ao66 t781.length co66 : Value).ownBlock ∧ some k_ ≠ (.slice Ao78 t796.length co78 : Value).ownBlock ∧ k_ ≠ gb777)) (by (with_reducible repeat (first | apply Kd.R_alloc | apply Kd.R_drewN | apply Kd.R_drew)); exact Kd.R_mono HO795.out (fun _ hk => ⟨⟨hk.1.1, ⟨hk.2, hk.1.2.2⟩⟩, hk.1.2.1⟩)) hg hat)
    have n5_ := Aside0.mk (Kd.R_after (ok := (fun k_ => some k_ ≠ (.slice Ao66 t781.length co66 : Value).ownBlock ∧ some k_ ≠ (.slice Ao75 y793.length co75 : Value).ownBlock ∧ k_ ≠ gb777)) (by (with_reducible repeat (first | apply Kd.R_alloc | apply Kd.R_drewN | apply Kd.R_drew)); exact Kd.R_mono HO798.out (fun _ hk => ⟨⟨hk.1.1.1.2, ⟨hk.1.2, hk.2⟩⟩, hk.1.1.2⟩)) hg hat)
    have n6_ := Aside0.mk (hb)
    have n7_ := Aside0.mk (ho)
    clear BK777; clear HO780; clear HO783; clear HO786; clear HO795; clear HO798; clear HB; clear HO792
    have BK777 := n0_
    have HO780 := n1_
    have HO783 := n2_
    have HO786 := n3_
    have HO795 := n4_
    have HO798 := n5_
    have HB := n6_
    have HO801 := n7_
    clear n0_; clear n1_; clear n2_; clear n3_; clear n4_; clear n5_; clear n6_; clear n7_; clear ho; clear hb; clear hg; clear hat
    obtain ⟨Ao79, co79, eo79⟩ := Kd.R_slice HO801.out
    (first | subst eo79 | (injection eo79 with f1_ f2_ f3_; have f4_ := f1_.symm; have f5_ := f3_.symm; clear f1_ f2_ f3_; subst f4_; subst f5_))
    refine hK.out _ _ ⟨(blk_cell BK777.out 0).trans rfl, (blk_cell BK777.out 1).trans rfl⟩ (fun hHeld => ?_)
    clear hK; clear K
    refine norm_ (a' := ?_) ?_ ?_
    rotate_left
    ·show Act.put _ (some 33) _ = _
     simp only [Act.put, List.setIfInBounds_toArray, List.set_cons_zero, List.set_cons_succ, i64_w, i32_w]
     rfl
    refine one_ (i := 9) (N := some 34) #[true, true, true, true, true, true, true, true, true, true, false] rfl rfl (one_of HT_.out (by kernel_rfl)) (by decide) (fun K hK => ?_)
    refine goes_ Try.func37 (by kernel_rfl) rfl #[.int .i64 0, .int .i64 (wrap64 (Int.tmod a0 40)), .slice Ao65 t778.length co65, .slice Ao79 y799.length co79, .slice none 0 0] (by rfl) rfl rfl mt ?_
    refine (cons_Plan.calls k 0 (wrap64 (Int.tmod a0 40)) _ _ t778 _ _ y799 _ _ ([] : List Bool) t802 _ ?side1 ?side2 ?side3 ?side4 ?side5 ?side6 A11.out).mono ?_
    (case side1 => exact mC (Kd.R_reads' HO780.out).2.2)
    (case side2 => exact (Kd.R_reads' HO780.out).2.1)
    (case side3 => exact mC (Kd.R_reads' HO801.out).2.2)
    (case side4 => exact (Kd.R_reads' HO801.out).2.1)
    (case side5 => exact Kd.C_nil _ _)
    (case side6 => exact Nat.le_refl _)
    rintro e w80 ⟨v803, rfl, ho0, hb⟩
    refine ⟨_, rfl, ?_⟩
    have n0_ := Aside0.mk (Kd.R_below (mR HO780.out) hb)
    have n1_ := Aside0.mk (Kd.R_below (mR HO783.out) hb)
    have n2_ := Aside0.mk (Kd.V_below (mV HO786.out) hb)
    have n3_ := Aside0.mk (Kd.R_below (mR HO795.out) hb)
    have n4_ := Aside0.mk (Kd.R_below (mR HO798.out) hb)
    have n5_ := Aside0.mk (Kd.R_below (mR HO801.out) hb)
    have n6_ := Aside0.mk (Kd.V_lower (Kd.V_mono (ok' := fun k_ => some k_ ≠ (.slice Ao65 t778.length co65 : Value).ownBlock ∧ some k_ ≠ (.slice Ao66 t781.length co66 : Value).ownBlock ∧ some k_ ≠ (.slice Ao75 y793.length co75 : Value).ownBlock ∧ some k_ ≠ (.slice Ao78 t796.length co78 : Value).ownBlock ∧ some k_ ≠ (.slice Ao79 y799.length co79 : Value).ownBlock ∧ k_ ≠ gb777) ho0 (fun k_ hk_ => ⟨(Kd.fresh' (Kd.R_lt (mR HO780.out)) k_ hk_), (Kd.fresh' (Kd.R_lt (mR HO783.out)) k_ hk_), (Kd.fresh' (Kd.R_lt (mR HO795.out)) k_ hk_), (Kd.fresh' (Kd.R_lt (mR HO798.out)) k_ hk_), (Kd.fresh' (Kd.R_lt (mR HO801.out)) k_ hk_), (Kd.freshB (g := gb777) (o := .cells #[.int .i64 a3_0, .int .i64 a3_1] 52 (0, 0)) (mBK BK777.out) k_ hk_)⟩)) (below_size (mBs HB.out)))
    have n7_ := Aside0.mk (blk_below (g := gb777) (o := .cells #[.int .i64 a3_0, .int .i64 a3_1] 52 (0, 0)) (mBK BK777.out) hb)
    have n8_ := Aside0.mk (below_step (mBs HB.out) hb)
    clear HO780; clear HO783; clear HO786; clear HO795; clear HO798; clear HO801; clear BK777; clear HB
    have HO780 := n0_
    have HO783 := n1_
    have HO786 := n2_
    have HO795 := n3_
    have HO798 := n4_
    have HO801 := n5_
    have HO804 := n6_
    have BK777 := n7_
    have HB := n8_
    clear n0_; clear n1_; clear n2_; clear n3_; clear n4_; clear n5_; clear n6_; clear n7_; clear n8_
    (try clear hb); (try clear hb2); (try clear hk); (try clear hi); (try clear ho0)
    refine hK.out _ _ ⟨(blk_cell BK777.out 0).trans rfl, (blk_cell BK777.out 1).trans rfl⟩ (fun hHeld => ?_)
    clear hK; clear K
    refine norm_ (a' := ?_) ?_ ?_
    rotate_left
    ·show Act.put _ (some 34) _ = _
     simp only [Act.put, List.setIfInBounds_toArray, List.set_cons_zero, List.set_cons_succ, i64_w, i32_w]
     rfl
    refine plan_ [(10, 13)] ?_
    refine planP_ (v := ?_) (a' := ?_) rfl rfl (any_of HT_.out (by kernel_rfl)) (fun _ _ _ h => h) (Or.inl ⟨by rfl, ?_⟩) ?_ ?_; rotate_left; (intro w'; go_simp; with_reducible rfl); rotate_left; (simp only [Act.put, List.setIfInBounds_toArray, List.set_cons_zero, List.set_cons_succ, i64_w, i32_w]; rfl)
    refine planEnd_ ?_
    refine done_ (done_of HT_.out (by kernel_rfl)) ?_
    try go_wp2_with (first | ((with_reducible refine gate_callee (f := 35) rfl ?_); refine goesL_ (some 35) rfl rfl Try.func35 (by kernel_rfl) rfl #[] rfl mt ?_; (with_reducible refine (prebendlaw18_awake.calls k  false _ A12.out).mono ?_); rintro e w81 ⟨rfl, hb⟩; refine ⟨_, rfl, ?_⟩; have n0_ := Aside0.mk (Kd.R_below (mR HO780.out) hb); have n1_ := Aside0.mk (Kd.R_below (mR HO783.out) hb); have n2_ := Aside0.mk (Kd.V_below (mV HO786.out) hb); have n3_ := Aside0.mk (Kd.R_below (mR HO795.out) hb); have n4_ := Aside0.mk (Kd.R_below (mR HO798.out) hb); have n5_ := Aside0.mk (Kd.R_below (mR HO801.out) hb); have n6_ := Aside0.mk (Kd.V_below (mV HO804.out) hb); have n7_ := Aside0.mk (blk_below (g := gb777) (o := .cells #[.int .i64 a3_0, .int .i64 a3_1] 52 (0, 0)) (mBK BK777.out) hb); have n8_ := Aside0.mk (below_step (mBs HB.out) hb); clear HO780; clear HO783; clear HO786; clear HO795; clear HO798; clear HO801; clear HO804; clear BK777; clear HB; have HO780 := n0_; have HO783 := n1_; have HO786 := n2_; have HO795 := n3_; have HO798 := n4_; have HO801 := n5_; have HO804 := n6_; have BK777 := n7_; have HB := n8_; clear n0_ n1_ n2_ n3_ n4_ n5_ n6_ n7_ n8_; (try clear hb); (try clear hb2); (try clear hk); (try clear hi)))
    go_ret
    exact ⟨by first | rfl | (simp [errW_none, errW_some] <;> rfl) | (simp [*, errW_none, errW_some] <;> rfl), by repeat (first | (with_reducible first | exact HB.out | apply below_alloc | apply pw_below_drewN | apply below_drew1 | refine below_set ?_ GE777.out) | exact HB.out)⟩
  ·rw [if_neg c10] at H
   exact absurd H (by simp)
 ·rw [if_neg c8] at H
  exact absurd H (by simp)

/-- THE ONE PURE STATEMENT of prebendlaw18_ConsLater. -/
def prebendlaw18_ConsLater.Pure : Prop := ∀ (a0 : Int) (l1 : List (S38)) (l2 : List (S52)) (a3_0 : Int) (a3_1 : Int), (Lit.int .u8 a0).wf = true → (l1.length ≤ maxLen ∧ ∀ y ∈ l1, g38 y) → (l2.length ≤ maxLen ∧ ∀ y ∈ l2, g52 y) → (Lit.int .i64 a3_0).wf = true → (Lit.int .i64 a3_1).wf = true → ∃ k, prebendlaw18_ConsLater.f k a0 l1 l2 a3_0 a3_1 = some true
theorem prebendlaw18_ConsLater.walk (P : prebendlaw18_ConsLater.Pure) (a0 : Int) (A1 : Option Addr) (c1 : Nat) (l1 : List (S38)) (A2 : Option Addr) (c2 : Nat) (l2 : List (S52)) (a3_0 : Int) (a3_1 : Int) (w : World) (hr1 : Kd.C k38 w A1 l1.length l1) (hc1 : l1.length ≤ c1) (hr2 : Kd.C k52 w A2 l2.length l2) (hc2 : l2.length ≤ c2) (h0_ : (Lit.int .u8 a0).wf = true) (h1_ : (l1.length ≤ maxLen ∧ ∀ y ∈ l1, g38 y)) (h2_ : (l2.length ≤ maxLen ∧ ∀ y ∈ l2, g52 y)) (h3_0_ : (Lit.int .i64 a3_0).wf = true) (h3_1_ : (Lit.int .i64 a3_1).wf = true) :
  Calls Try.prog 12 #[.int .u8 a0, .slice A1 l1.length c1, .slice A2 l2.length c2, .agg #[.int .i64 a3_0, .int .i64 a3_1]] w fun e w' => e = .returned (.bool true) ∧ Below w.heap.size w w' := by
 obtain ⟨k, h⟩ := P a0 l1 l2 a3_0 a3_1 h0_ h1_ h2_ h3_0_ h3_1_
 refine (prebendlaw18_ConsLater.calls k a0 A1 c1 l1 A2 c2 l2 a3_0 a3_1 true w hr1 hc1 hr2 hc2 h).mono ?_
 rintro e w' ⟨rfl, hd⟩
 exact ⟨rfl, hd⟩

end Go.Proofs.Ytedpoahndddgfaa.PAll
end
