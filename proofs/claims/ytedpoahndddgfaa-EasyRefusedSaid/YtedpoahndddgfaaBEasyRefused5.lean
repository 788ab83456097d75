/- Words, plain functions and contracts of the functions that the law of this claim reaches; no conditions. -/
import Derived.Test.YtedpoahndddgfaaBEasyRefused4
section
namespace Go.Proofs.Ytedpoahndddgfaa.PAll
open Go.RowKit Go.Proofs.YtedpoahndddgfaaW.PrintWords Go.Proofs.YtedpoahndddgfaaW.PrintLast Go.Proofs.YtedpoahndddgfaaW.PrintMore
attribute [local go_sem] max2_int min2_int max_two min_two max_three min_three max_four min_four   -- for this text's walks alone
set_option linter.unusedVariables false
set_option linter.unusedSimpArgs false

/-! ### prebendlaw17_EasyRefused: function 9 -/
def prebendlaw17_EasyRefused.f (k : Nat) (a0 : Int) (l1 : List (S38)) (l2 : List (S52)) (a3 : Int) : Option (Bool) := (prebendref17_Busy.f k l1).bind fun t604 => ((prebendref17_Asks.f k l2).bind fun t607 => (if (t607.length : Int) = 0 then ((prebendlaw17_awake.f k).bind fun t610 => (some t610)) else (if 0 ≤ (t607.length : Int) then (if ((t607.length : Int) : Int).toNat ≤ 281474976710656 then ((some (List.replicate ((t607.length : Int) : Int).toNat false : List Bool)).bind fun y611 => (if 0 ≤ (Int.tmod (wrap64 (a3)) (t607.length : Int)) then (if (Int.tmod (wrap64 (a3)) (t607.length : Int)) < (y611.length : Int) then ((easy_Next.f k 0 (wrap64 (Int.tmod a0 40)) t604 t607 (y611.set ((Int.tmod (wrap64 (a3)) (t607.length : Int)) : Int).toNat true)).bind fun bt615 => ((some (([] : List (S52)) : List (S52))).bind fun y617 => (if (Int.tmod (wrap64 (a3)) (t607.length : Int)) ≤ (t607.length : Int) then ((some (t607.take ((Int.tmod (wrap64 (a3)) (t607.length : Int)) : Int).toNat : List (S52))).bind fun y620 => (if y617.length + y620.length < 8796093022208 then ((some (y617 ++ y620 : List (S52))).bind fun y624 => (if 0 ≤ (wrap64 ((Int.tmod (wrap64 (a3)) (t607.length : Int)) + 1)) then (if (wrap64 ((Int.tmod (wrap64 (a3)) (t607.length : Int)) + 1)) ≤ (t607.length : Int) then ((some (t607.drop ((wrap64 ((Int.tmod (wrap64 (a3)) (t607.length : Int)) + 1)) : Int).toNat : List (S52))).bind fun y627 => (if y624.length + y627.length < 8796093022208 then ((easy_Next.f k 0 (wrap64 (Int.tmod a0 40)) t604 (y624 ++ y627) ([] : List Bool)).bind fun bt634 => (if bt634.1 ≥ (Int.tmod (wrap64 (a3)) (t607.length : Int)) then (if bt634.2 = true then ((prebendlaw17_awake.f k).bind fun t636 => (if t636 = true then (if (bt615.2 == bt634.2) = true then (if bt615.1 = (wrap64 (bt634.1 + 1)) then (if bt615.2 = true then (some (bt615.1 != (Int.tmod (wrap64 (a3)) (t607.length : Int)))) else (some true)) else (some false)) else (some false)) else (some false))) else ((prebendlaw17_awake.f k).bind fun t637 => (if t637 = true then (if (bt615.2 == bt634.2) = true then (if bt615.1 = bt634.1 then (if bt615.2 = true then (some (bt615.1 != (Int.tmod (wrap64 (a3)) (t607.length : Int)))) else (some true)) else (some false)) else (some false)) else (some false)))) else ((prebendlaw17_awake.f k).bind fun t638 => (if t638 = true then (if (bt615.2 == bt634.2) = true then (if bt615.1 = bt634.1 then (if bt615.2 = true then (some (bt615.1 != (Int.tmod (wrap64 (a3)) (t607.length : Int)))) else (some true)) else (some false)) else (some false)) else (some false))))) else (none))) else (none)) else (none))) else (none))) else (none)))) else (none)) else (none))) else (none)) else (none))))
theorem prebendlaw17_EasyRefused.mono : ∀ a0 a1 a2 a3 k, LeO (prebendlaw17_EasyRefused.f k a0 a1 a2 a3) (prebendlaw17_EasyRefused.f (k + 1) a0 a1 a2 a3) := by
 intro a0 a1 a2 a3 k
 unfold prebendlaw17_EasyRefused.f
 repeat' first
   | (with_reducible exact easy_Next.mono _ _ _ _ _ _)
   | (with_reducible exact prebendlaw17_awake.mono _)
   | (with_reducible exact prebendref17_Asks.mono _ _)
   | (with_reducible exact prebendref17_Busy.mono _ _)
   | (with_reducible exact LeO.refl _)
   | (with_reducible exact LeO.none _)
   | (with_reducible refine LeO.ite ?_ ?_)
   | (with_reducible refine LeO.bind ?_ (fun _ => ?_))
   | exact easy_Next.mono _ _ _ _ _ _
   | exact prebendlaw17_awake.mono _
   | exact prebendref17_Asks.mono _ _
   | exact prebendref17_Busy.mono _ _
   | exact LeO.none _
   | refine LeO.ite ?_ ?_
   | refine LeO.bind ?_ (fun _ => ?_)
def prebendlaw17_EasyRefused.T9 : Bool × List (List Nat × List Nat) := (true, [([], []), ([], []), ([], []), ([], []), ([], []), ([3, 4], [3, 4]), ([2, 5], [2, 5]), ([], []), ([], []), ([8], [8]), ([7, 9], [7, 9]), ([6, 10, 6], [6, 10]), ([0, 1, 11, 11], [0, 1, 11]), ([12], [12]), ([13], [13]), ([13], [13]), ([14, 12, 0, 1, 2, 3, 4, 5, 6, 7, 8, 9, 10, 11, 12, 13, 14], [14]), ([15, 16, 0, 1, 2, 3, 4, 5, 6, 7, 8, 9, 10, 11, 12, 13, 14, 15, 16], [15])])
def prebendlaw17_EasyRefused.B9 : List Nat := [0, 0, 0, 0, 0, 24, 60, 0, 0, 256, 896, 2044, 4095, 8191, 16383, 16383, 32767, 131071]
theorem prebendlaw17_EasyRefused.tab9 : rtab .any (opsOf Try.f9 9) = prebendlaw17_EasyRefused.T9 := by kernel_rfl
theorem prebendlaw17_EasyRefused.bits9 : waitsOk prebendlaw17_EasyRefused.T9.2 prebendlaw17_EasyRefused.B9 = true := by kernel_rfl
set_option maxHeartbeats 8000000 in
set_option maxRecDepth 100000 in
theorem prebendlaw17_EasyRefused.calls (k : Nat) (a0 : Int) (A1 : Option Addr) (c1 : Nat) (l1 : List (S38)) (A2 : Option Addr) (c2 : Nat) (l2 : List (S52)) (a3 : Int) (r : Bool) (w : World) (hr1 : Kd.C k38 w A1 l1.length l1) (hc1 : l1.length ≤ c1) (hr2 : Kd.C k52 w A2 l2.length l2) (hc2 : l2.length ≤ c2) (h : prebendlaw17_EasyRefused.f k a0 l1 l2 a3 = some r) :
  Calls Try.prog 9 #[.int .u8 a0, .slice A1 l1.length c1, .slice A2 l2.length c2, .int .u8 a3] w fun e w' => e = .returned (.bool r) ∧ Below w.heap.size w w' := by
 have HR1 := Aside0.mk hr1
 have HC1 := Aside0.mk hc1
 clear hr1 hc1
 have HR2 := Aside0.mk hr2
 have HC2 := Aside0.mk hc2
 clear hr2 hc2
 have HB := Aside0.mk (Below.refl w.heap.size w)
 have H : ((prebendref17_Busy.f k l1).bind fun t604 => ((prebendref17_Asks.f k l2).bind fun t607 => (if (t607.length : Int) = 0 then ((prebendlaw17_awake.f k).bind fun t610 => (some t610)) else (if 0 ≤ (t607.length : Int) then (if ((t607.length : Int) : Int).toNat ≤ 281474976710656 then ((some (List.replicate ((t607.length : Int) : Int).toNat false : List Bool)).bind fun y611 => (if 0 ≤ (Int.tmod (wrap64 (a3)) (t607.length : Int)) then (if (Int.tmod (wrap64 (a3)) (t607.length : Int)) < (y611.length : Int) then ((easy_Next.f k 0 (wrap64 (Int.tmod a0 40)) t604 t607 (y611.set ((Int.tmod (wrap64 (a3)) (t607.length : Int)) : Int).toNat true)).bind fun bt615 => ((some (([] : List (S52)) : List (S52))).bind fun y617 => (if (Int.tmod (wrap64 (a3)) (t607.length : Int)) ≤ (t607.length : Int) then ((some (t607.take ((Int.tmod (wrap64 (a3)) (t607.length : Int)) : Int).toNat : List (S52))).bind fun y620 => (if y617.length + y620.length < 8796093022208 then ((some (y617 ++ y620 : List (S52))).bind fun y624 => (if 0 ≤ (wrap64 ((Int.tmod (wrap64 (a3)) (t607.length : Int)) + 1)) then (if (wrap64 ((Int.tmod (wrap64 (a3)) (t607.length : Int)) + 1)) ≤ (t607.length : Int) then ((some (t607.drop ((wrap64 ((Int.tmod (wrap64 (a3)) (t607.length : Int)) + 1)) : Int).toNat : List (S52))).bind fun y627 => (if y624.length + y627.length < 8796093022208 then ((easy_Next.f k 0 (wrap64 (Int.tmod a0 40)) t604 (y624 ++ y627) ([] : List Bool)).bind fun bt634 => (if bt634.1 ≥ (Int.tmod (wrap64 (a3)) (t607.length : Int)) then (if bt634.2 = true then ((prebendlaw17_awake.f k).bind fun t636 => (if t636 = true then (if (bt615.2 == bt634.2) = true then (if bt615.1 = (wrap64 (bt634.1 + 1)) then (if bt615.2 = true then (some (bt615.1 != (Int.tmod (wrap64 (a3)) (t607.length : Int)))) else (some true)) else (some false)) else (some false)) else (some false))) else ((prebendlaw17_awake.f k).bind fun t637 => (if t637 = true then (if (bt615.2 == bt634.2) = true then (if bt615.1 = bt634.1 then (if bt615.2 = true then (some (bt615.1 != (Int.tmod (wrap64 (a3)) (t607.length : Int)))) else (some true)) else (some false)) else (some false)) else (some false)))) else ((prebendlaw17_awake.f k).bind fun t638 => (if t638 = true then (if (bt615.2 == bt634.2) = true then (if bt615.1 = bt634.1 then (if bt615.2 = true then (some (bt615.1 != (Int.tmod (wrap64 (a3)) (t607.length : Int)))) else (some true)) else (some false)) else (some false)) else (some false))))) else (none))) else (none)) else (none))) else (none))) else (none)))) else (none)) else (none))) else (none)) else (none))))) = some r := h
 clear h
 replace H := Option.bind_eq_some_iff.mp H
 obtain ⟨t604, A50, H⟩ := H
 replace H : ((prebendref17_Asks.f k l2).bind fun t607 => (if (t607.length : Int) = 0 then ((prebendlaw17_awake.f k).bind fun t610 => (some t610)) else (if 0 ≤ (t607.length : Int) then (if ((t607.length : Int) : Int).toNat ≤ 281474976710656 then ((some (List.replicate ((t607.length : Int) : Int).toNat false : List Bool)).bind fun y611 => (if 0 ≤ (Int.tmod (wrap64 (a3)) (t607.length : Int)) then (if (Int.tmod (wrap64 (a3)) (t607.length : Int)) < (y611.length : Int) then ((easy_Next.f k 0 (wrap64 (Int.tmod a0 40)) t604 t607 (y611.set ((Int.tmod (wrap64 (a3)) (t607.length : Int)) : Int).toNat true)).bind fun bt615 => ((some (([] : List (S52)) : List (S52))).bind fun y617 => (if (Int.tmod (wrap64 (a3)) (t607.length : Int)) ≤ (t607.length : Int) then ((some (t607.take ((Int.tmod (wrap64 (a3)) (t607.length : Int)) : Int).toNat : List (S52))).bind fun y620 => (if y617.length + y620.length < 8796093022208 then ((some (y617 ++ y620 : List (S52))).bind fun y624 => (if 0 ≤ (wrap64 ((Int.tmod (wrap64 (a3)) (t607.length : Int)) + 1)) then (if (wrap64 ((Int.tmod (wrap64 (a3)) (t607.length : Int)) + 1)) ≤ (t607.length : Int) then ((some (t607.drop ((wrap64 ((Int.tmod (wrap64 (a3)) (t607.length : Int)) + 1)) : Int).toNat : List (S52))).bind fun y627 => (if y624.length + y627.length < 8796093022208 then ((easy_Next.f k 0 (wrap64 (Int.tmod a0 40)) t604 (y624 ++ y627) ([] : List Bool)).bind fun bt634 => (if bt634.1 ≥ (Int.tmod (wrap64 (a3)) (t607.length : Int)) then (if bt634.2 = true then ((prebendlaw17_awake.f k).bind fun t636 => (if t636 = true then (if (bt615.2 == bt634.2) = true then (if bt615.1 = (wrap64 (bt634.1 + 1)) then (if bt615.2 = true then (some (bt615.1 != (Int.tmod (wrap64 (a3)) (t607.length : Int)))) else (some true)) else (some false)) else (some false)) else (some false))) else ((prebendlaw17_awake.f k).bind fun t637 => (if t637 = true then (if (bt615.2 == bt634.2) = true then (if bt615.1 = bt634.1 then (if bt615.2 = true then (some (bt615.1 != (Int.tmod (wrap64 (a3)) (t607.length : Int)))) else (some true)) else (some false)) else (some false)) else (some false)))) else ((prebendlaw17_awake.f k).bind fun t638 => (if t638 = true then (if (bt615.2 == bt634.2) = true then (if bt615.1 = bt634.1 then (if bt615.2 = true then (some (bt615.1 != (Int.tmod (wrap64 (a3)) (t607.length : Int)))) else (some true)) else (some false)) else (some false)) else (some false))))) else (none))) else (none)) else (none))) else (none))) else (none)))) else (none)) else (none))) else (none)) else (none)))) = some r := H
 have A5 := Aside0.mk A50
 clear A50
 replace H := Option.bind_eq_some_iff.mp H
 obtain ⟨t607, A60, H⟩ := H
 replace H : (if (t607.length : Int) = 0 then ((prebendlaw17_awake.f k).bind fun t610 => (some t610)) else (if 0 ≤ (t607.length : Int) then (if ((t607.length : Int) : Int).toNat ≤ 281474976710656 then ((some (List.replicate ((t607.length : Int) : Int).toNat false : List Bool)).bind fun y611 => (if 0 ≤ (Int.tmod (wrap64 (a3)) (t607.length : Int)) then (if (Int.tmod (wrap64 (a3)) (t607.length : Int)) < (y611.length : Int) then ((easy_Next.f k 0 (wrap64 (Int.tmod a0 40)) t604 t607 (y611.set ((Int.tmod (wrap64 (a3)) (t607.length : Int)) : Int).toNat true)).bind fun bt615 => ((some (([] : List (S52)) : List (S52))).bind fun y617 => (if (Int.tmod (wrap64 (a3)) (t607.length : Int)) ≤ (t607.length : Int) then ((some (t607.take ((Int.tmod (wrap64 (a3)) (t607.length : Int)) : Int).toNat : List (S52))).bind fun y620 => (if y617.length + y620.length < 8796093022208 then ((some (y617 ++ y620 : List (S52))).bind fun y624 => (if 0 ≤ (wrap64 ((Int.tmod (wrap64 (a3)) (t607.length : Int)) + 1)) then (if (wrap64 ((Int.tmod (wrap64 (a3)) (t607.length : Int)) + 1)) ≤ (t607.length : Int) then ((some (t607.drop ((wrap64 ((Int.tmod (wrap64 (a3)) (t607.length : Int)) + 1)) : Int).toNat : List (S52))).bind fun y627 => (if y624.length + y627.length < 8796093022208 then ((easy_Next.f k 0 (wrap64 (Int.tmod a0 40)) t604 (y624 ++ y627) ([] : List Bool)).bind fun bt634 => (if bt634.1 ≥ (Int.tmod (wrap64 (a3)) (t607.length : Int)) then (if bt634.2 = true then ((prebendlaw17_awake.f k).bind fun t636 => (if t636 = true then (if (bt615.2 == bt634.2) = true then (if bt615.1 = (wrap64 (bt634.1 + 1)) then (if bt615.2 = true then (some (bt615.1 != (Int.tmod (wrap64 (a3)) (t607.length : Int)))) else (some true)) else (some false)) else (some false)) else (some false))) else ((prebendlaw17_awake.f k).bind fun t637 => (if t637 = true then (if (bt615.2 == bt634.2) = true then (if bt615.1 = bt634.1 then (if bt615.2 = true then (some (bt615.1 != (Int.tmod (wrap64 (a3)) (t607.length : Int)))) else (some true)) else (some false)) else (some false)) else (some false)))) else ((prebendlaw17_awake.f k).bind fun t638 => (if t638 = true then (if (bt615.2 == bt634.2) = true then (if bt615.1 = bt634.1 then (if bt615.2 = true then (some (bt615.1 != (Int.tmod (wrap64 (a3)) (t607.length : Int)))) else (some true)) else (some false)) else (some false)) else (some false))))) else (none))) else (none)) else (none))) else (none))) else (none)))) else (none)) else (none))) else (none)) else (none))) = some r := H
 have A6 := Aside0.mk A60
 clear A60
 by_cases c7 : (t607.length : Int) = 0
 ·rw [if_pos c7] at H
  have c7b0 : ((t607.length : Int) == 0) = true := beq_iff_eq.mpr c7
  have c7b1 : ((t607.length : Int) != 0) = false := bne_eq_false_iff_eq.mpr c7
  clear c7
  replace H := Option.bind_eq_some_iff.mp H
  obtain ⟨t610, A80, H⟩ := H
  replace H : (some t610) = some r := H
  have A8 := Aside0.mk A80
  clear A80
  obtain rfl := Option.some.inj H
  go_enter Try.func9, Try.ntmps9
  go_wp2_with (first | ((with_reducible refine gate_callee (f := 25) rfl ?_); refine goesL_ (some 22) rfl rfl Try.func25 (by kernel_rfl) rfl #[.slice A1 l1.length c1] rfl (by (try simp only [List.map_toArray, List.map_cons, List.map_nil]); first | done | rfl | (simp only [List.length_drop, List.length_take]; rfl)) ?_; (with_reducible refine (prebendref17_Busy.calls k _ _ l1 t604 _ ?side1 ?side2 A5.out).mono ?_); (case side1 => repeat (first | exact HR1.out | (with_reducible refine Kd.C_alloc ?_ _) | (with_reducible refine Kd.C_drewN ?_ _) | (with_reducible refine Kd.C_drew ?_))); (case side2 => exact HC1.out); rintro e w9 ⟨v605, rfl, ho0, hb⟩; refine ⟨_, rfl, ?_⟩; have n0_ := Aside0.mk (Kd.R_lower ho0 (below_size (by repeat (first | (with_reducible first | exact HB.out | apply below_alloc | apply pw_below_drewN | apply below_drew1) | exact HB.out)))); have n1_ := Aside0.mk (below_step (by repeat (first | (with_reducible first | exact HB.out | apply below_alloc | apply pw_below_drewN | apply below_drew1) | exact HB.out)) hb); clear HB; have HO606 := n0_; have HB := n1_; clear n0_ n1_; (try clear hb); (try clear hb2); (try clear hk); (try clear hi); (try clear ho0)) | ((with_reducible refine gate_callee (f := 26) rfl ?_); refine goesL_ (some 24) rfl rfl Try.func26 (by kernel_rfl) rfl #[.slice A2 l2.length c2] rfl (by (try simp only [List.map_toArray, List.map_cons, List.map_nil]); first | done | rfl | (simp only [List.length_drop, List.length_take]; rfl)) ?_; (with_reducible refine (prebendref17_Asks.calls k _ _ l2 t607 _ ?side1 ?side2 A6.out).mono ?_); (case side1 => repeat (first | exact (Kd.C_below HR2.out HB.out) | (with_reducible refine Kd.C_alloc ?_ _) | (with_reducible refine Kd.C_drewN ?_ _) | (with_reducible refine Kd.C_drew ?_))); (case side2 => exact HC2.out); rintro e w10 ⟨v608, rfl, ho0, hb⟩; refine ⟨_, rfl, ?_⟩; have n0_ := Aside0.mk (Kd.R_below (by (with_reducible repeat (first | apply Kd.R_alloc | apply Kd.R_drewN | apply Kd.R_drew)); exact HO606.out) hb); have n1_ := Aside0.mk (Kd.R_lower ho0 (below_size (by repeat (first | (with_reducible first | exact HB.out | apply below_alloc | apply pw_below_drewN | apply below_drew1) | exact HB.out)))); have n2_ := Aside0.mk (below_step (by repeat (first | (with_reducible first | exact HB.out | apply below_alloc | apply pw_below_drewN | apply below_drew1) | exact HB.out)) hb); clear HO606; clear HB; have HO606 := n0_; have HO609 := n1_; have HB := n2_; clear n0_ n1_ n2_; (try clear hb); (try clear hb2); (try clear hk); (try clear hi); (try clear ho0); obtain ⟨Ao11, co11, eo11⟩ := Kd.R_slice HO609.out; subst eo11) | ((with_reducible refine gate_callee (f := 31) rfl ?_); refine goesL_ (some 28) rfl rfl Try.func31 (by kernel_rfl) rfl #[] rfl (by (try simp only [List.map_toArray, List.map_cons, List.map_nil]); first | done | rfl | (simp only [List.length_drop, List.length_take]; rfl)) ?_; (with_reducible refine (prebendlaw17_awake.calls k  t610 _ A8.out).mono ?_); rintro e w12 ⟨rfl, hb⟩; refine ⟨_, rfl, ?_⟩; have n0_ := Aside0.mk (Kd.R_below (by (with_reducible repeat (first | apply Kd.R_alloc | apply Kd.R_drewN | apply Kd.R_drew)); exact HO606.out) hb); have n1_ := Aside0.mk (Kd.R_below (by (with_reducible repeat (first | apply Kd.R_alloc | apply Kd.R_drewN | apply Kd.R_drew)); exact HO609.out) hb); have n2_ := Aside0.mk (below_step (by repeat (first | (with_reducible first | exact HB.out | apply below_alloc | apply pw_below_drewN | apply below_drew1) | exact HB.out)) hb); clear HO606; clear HO609; clear HB; have HO606 := n0_; have HO609 := n1_; have HB := n2_; clear n0_ n1_ n2_; (try clear hb); (try clear hb2); (try clear hk); (try clear hi)))
  go_ret
  exact ⟨by first | rfl | (simp [errW_none, errW_some] <;> rfl) | (simp [*, errW_none, errW_some] <;> rfl), by repeat (first | (with_reducible first | exact HB.out | apply below_alloc | apply pw_below_drewN | apply below_drew1) | exact HB.out)⟩
 ·rw [if_neg c7] at H
  have c7b0 : ((t607.length : Int) == 0) = false := beq_eq_false_iff_ne.mpr c7
  have c7b1 : ((t607.length : Int) != 0) = true := bne_iff_ne.mpr c7
  have c7b2 : ¬ (t607 = []) := fun h_ => c7 (by rw [h_]; rfl)
  by_cases c13 : 0 ≤ (t607.length : Int)
  ·rw [if_pos c13] at H
   have c13b0 := eq_true c13
   have c13b1 : decide (0 ≤ (t607.length : Int)) = true := decide_eq_true c13
   clear c13
   by_cases c14 : ((t607.length : Int) : Int).toNat ≤ 281474976710656
   ·rw [if_pos c14] at H
    have c14b0 := eq_true c14
    have c14b1 : decide (((t607.length : Int) : Int).toNat ≤ 281474976710656) = true := decide_eq_true c14
    clear c14
    obtain ⟨y611, hy611⟩ : ∃ y_ : List Bool, y_ = (List.replicate ((t607.length : Int) : Int).toNat false) := ⟨_, rfl⟩
    replace H : (if 0 ≤ (Int.tmod (wrap64 (a3)) (t607.length : Int)) then (if (Int.tmod (wrap64 (a3)) (t607.length : Int)) < (y611.length : Int) then ((easy_Next.f k 0 (wrap64 (Int.tmod a0 40)) t604 t607 (y611.set ((Int.tmod (wrap64 (a3)) (t607.length : Int)) : Int).toNat true)).bind fun bt615 => ((some (([] : List (S52)) : List (S52))).bind fun y617 => (if (Int.tmod (wrap64 (a3)) (t607.length : Int)) ≤ (t607.length : Int) then ((some (t607.take ((Int.tmod (wrap64 (a3)) (t607.length : Int)) : Int).toNat : List (S52))).bind fun y620 => (if y617.length + y620.length < 8796093022208 then ((some (y617 ++ y620 : List (S52))).bind fun y624 => (if 0 ≤ (wrap64 ((Int.tmod (wrap64 (a3)) (t607.length : Int)) + 1)) then (if (wrap64 ((Int.tmod (wrap64 (a3)) (t607.length : Int)) + 1)) ≤ (t607.length : Int) then ((some (t607.drop ((wrap64 ((Int.tmod (wrap64 (a3)) (t607.length : Int)) + 1)) : Int).toNat : List (S52))).bind fun y627 => (if y624.length + y627.length < 8796093022208 then ((easy_Next.f k 0 (wrap64 (Int.tmod a0 40)) t604 (y624 ++ y627) ([] : List Bool)).bind fun bt634 => (if bt634.1 ≥ (Int.tmod (wrap64 (a3)) (t607.length : Int)) then (if bt634.2 = true then ((prebendlaw17_awake.f k).bind fun t636 => (if t636 = true then (if (bt615.2 == bt634.2) = true then (if bt615.1 = (wrap64 (bt634.1 + 1)) then (if bt615.2 = true then (some (bt615.1 != (Int.tmod (wrap64 (a3)) (t607.length : Int)))) else (some true)) else (some false)) else (some false)) else (some false))) else ((prebendlaw17_awake.f k).bind fun t637 => (if t637 = true then (if (bt615.2 == bt634.2) = true then (if bt615.1 = bt634.1 then (if bt615.2 = true then (some (bt615.1 != (Int.tmod (wrap64 (a3)) (t607.length : Int)))) else (some true)) else (some false)) else (some false)) else (some false)))) else ((prebendlaw17_awake.f k).bind fun t638 => (if t638 = true then (if (bt615.2 == bt634.2) = true then (if bt615.1 = bt634.1 then (if bt615.2 = true then (some (bt615.1 != (Int.tmod (wrap64 (a3)) (t607.length : Int)))) else (some true)) else (some false)) else (some false)) else (some false))))) else (none))) else (none)) else (none))) else (none))) else (none)))) else (none)) else (none)) = some r := by first | (rw [hy611]; with_reducible exact H) | (have H2_ := (Option.bind_some _ _).symm.trans H; rw [hy611]; with_reducible exact H2_) | (have H2_ := (Option.bind_some _ _).symm.trans H; with_reducible exact H2_) | with_reducible exact H | (rw [hy611]; exact H) | exact H
    have Ny611 := Aside0.mk hy611
    clear hy611
    obtain ⟨ji15, hji15⟩ : ∃ j_ : Int, (Int.tmod (wrap64 (a3)) (t607.length : Int)) = j_ := ⟨_, rfl⟩
    replace H : (if 0 ≤ (ji15) then (if (ji15) < (y611.length : Int) then ((easy_Next.f k 0 (wrap64 (Int.tmod a0 40)) t604 t607 (y611.set ((ji15) : Int).toNat true)).bind fun bt615 => ((some (([] : List (S52)) : List (S52))).bind fun y617 => (if (ji15) ≤ (t607.length : Int) then ((some (t607.take ((ji15) : Int).toNat : List (S52))).bind fun y620 => (if y617.length + y620.length < 8796093022208 then ((some (y617 ++ y620 : List (S52))).bind fun y624 => (if 0 ≤ (wrap64 ((ji15) + 1)) then (if (wrap64 ((ji15) + 1)) ≤ (t607.length : Int) then ((some (t607.drop ((wrap64 ((ji15) + 1)) : Int).toNat : List (S52))).bind fun y627 => (if y624.length + y627.length < 8796093022208 then ((easy_Next.f k 0 (wrap64 (Int.tmod a0 40)) t604 (y624 ++ y627) ([] : List Bool)).bind fun bt634 => (if bt634.1 ≥ (ji15) then (if bt634.2 = true then ((prebendlaw17_awake.f k).bind fun t636 => (if t636 = true then (if (bt615.2 == bt634.2) = true then (if bt615.1 = (wrap64 (bt634.1 + 1)) then (if bt615.2 = true then (some (bt615.1 != (ji15))) else (some true)) else (some false)) else (some false)) else (some false))) else ((prebendlaw17_awake.f k).bind fun t637 => (if t637 = true then (if (bt615.2 == bt634.2) = true then (if bt615.1 = bt634.1 then (if bt615.2 = true then (some (bt615.1 != (ji15))) else (some true)) else (some false)) else (some false)) else (some false)))) else ((prebendlaw17_awake.f k).bind fun t638 => (if t638 = true then (if (bt615.2 == bt634.2) = true then (if bt615.1 = bt634.1 then (if bt615.2 = true then (some (bt615.1 != (ji15))) else (some true)) else (some false)) else (some false)) else (some false))))) else (none))) else (none)) else (none))) else (none))) else (none)))) else (none)) else (none)) = some r := by first | (rw [hji15] at H; exact H) | (simp only [hji15] at H ⊢; exact H)
    (try rw [hji15] at A5)
    (try rw [hji15] at A6)
    by_cases c16 : 0 ≤ (ji15)
    ·rw [if_pos c16] at H
     have c16b0 : decide (0 ≤ (ji15)) = true := decide_eq_true c16
     clear c16
     by_cases c17 : (ji15) < (y611.length : Int)
     ·rw [if_pos c17] at H
      have c17b0 : decide ((ji15) < (y611.length : Int)) = true := decide_eq_true c17
      clear c17
      obtain ⟨y614, hy614⟩ : ∃ y_ : List Bool, y_ = (y611.set ((ji15) : Int).toNat true) := ⟨_, rfl⟩
      replace H : ((easy_Next.f k 0 (wrap64 (Int.tmod a0 40)) t604 t607 y614).bind fun bt615 => ((some (([] : List (S52)) : List (S52))).bind fun y617 => (if (ji15) ≤ (t607.length : Int) then ((some (t607.take ((ji15) : Int).toNat : List (S52))).bind fun y620 => (if y617.length + y620.length < 8796093022208 then ((some (y617 ++ y620 : List (S52))).bind fun y624 => (if 0 ≤ (wrap64 ((ji15) + 1)) then (if (wrap64 ((ji15) + 1)) ≤ (t607.length : Int) then ((some (t607.drop ((wrap64 ((ji15) + 1)) : Int).toNat : List (S52))).bind fun y627 => (if y624.length + y627.length < 8796093022208 then ((easy_Next.f k 0 (wrap64 (Int.tmod a0 40)) t604 (y624 ++ y627) ([] : List Bool)).bind fun bt634 => (if bt634.1 ≥ (ji15) then (if bt634.2 = true then ((prebendlaw17_awake.f k).bind fun t636 => (if t636 = true then (if (bt615.2 == bt634.2) = true then (if bt615.1 = (wrap64 (bt634.1 + 1)) then (if bt615.2 = true then (some (bt615.1 != (ji15))) else (some true)) else (some false)) else (some false)) else (some false))) else ((prebendlaw17_awake.f k).bind fun t637 => (if t637 = true then (if (bt615.2 == bt634.2) = true then (if bt615.1 = bt634.1 then (if bt615.2 = true then (some (bt615.1 != (ji15))) else (some true)) else (some false)) else (some false)) else (some false)))) else ((prebendlaw17_awake.f k).bind fun t638 => (if t638 = true then (if (bt615.2 == bt634.2) = true then (if bt615.1 = bt634.1 then (if bt615.2 = true then (some (bt615.1 != (ji15))) else (some true)) else (some false)) else (some false)) else (some false))))) else (none))) else (none)) else (none))) else (none))) else (none)))) = some r := by first | (rw [hy614]; with_reducible exact H) | (have H2_ := (Option.bind_some _ _).symm.trans H; rw [hy614]; with_reducible exact H2_) | (have H2_ := (Option.bind_some _ _).symm.trans H; with_reducible exact H2_) | with_reducible exact H | (rw [hy614]; exact H) | exact H
      have Ny614 := Aside0.mk hy614
      clear hy614
      replace H := Option.bind_eq_some_iff.mp H
      obtain ⟨⟨t615, t616⟩, A190, H⟩ := H
      replace H : ((some (([] : List (S52)) : List (S52))).bind fun y617 => (if (ji15) ≤ (t607.length : Int) then ((some (t607.take ((ji15) : Int).toNat : List (S52))).bind fun y620 => (if y617.length + y620.length < 8796093022208 then ((some (y617 ++ y620 : List (S52))).bind fun y624 => (if 0 ≤ (wrap64 ((ji15) + 1)) then (if (wrap64 ((ji15) + 1)) ≤ (t607.length : Int) then ((some (t607.drop ((wrap64 ((ji15) + 1)) : Int).toNat : List (S52))).bind fun y627 => (if y624.length + y627.length < 8796093022208 then ((easy_Next.f k 0 (wrap64 (Int.tmod a0 40)) t604 (y624 ++ y627) ([] : List Bool)).bind fun bt634 => (if bt634.1 ≥ (ji15) then (if bt634.2 = true then ((prebendlaw17_awake.f k).bind fun t636 => (if t636 = true then (if (t616 == bt634.2) = true then (if t615 = (wrap64 (bt634.1 + 1)) then (if t616 = true then (some (t615 != (ji15))) else (some true)) else (some false)) else (some false)) else (some false))) else ((prebendlaw17_awake.f k).bind fun t637 => (if t637 = true then (if (t616 == bt634.2) = true then (if t615 = bt634.1 then (if t616 = true then (some (t615 != (ji15))) else (some true)) else (some false)) else (some false)) else (some false)))) else ((prebendlaw17_awake.f k).bind fun t638 => (if t638 = true then (if (t616 == bt634.2) = true then (if t615 = bt634.1 then (if t616 = true then (some (t615 != (ji15))) else (some true)) else (some false)) else (some false)) else (some false))))) else (none))) else (none)) else (none))) else (none))) else (none))) = some r := H
      have A19 := Aside0.mk A190
      clear A190
      obtain ⟨y617, hy617⟩ : ∃ y_ : List (S52), y_ = (([] : List (S52))) := ⟨_, rfl⟩
      replace H : (if (ji15) ≤ (t607.length : Int) then ((some (t607.take ((ji15) : Int).toNat : List (S52))).bind fun y620 => (if y617.length + y620.length < 8796093022208 then ((some (y617 ++ y620 : List (S52))).bind fun y624 => (if 0 ≤ (wrap64 ((ji15) + 1)) then (if (wrap64 ((ji15) + 1)) ≤ (t607.length : Int) then ((some (t607.drop ((wrap64 ((ji15) + 1)) : Int).toNat : List (S52))).bind fun y627 => (if y624.length + y627.length < 8796093022208 then ((easy_Next.f k 0 (wrap64 (Int.tmod a0 40)) t604 (y624 ++ y627) ([] : List Bool)).bind fun bt634 => (if bt634.1 ≥ (ji15) then (if bt634.2 = true then ((prebendlaw17_awake.f k).bind fun t636 => (if t636 = true then (if (t616 == bt634.2) = true then (if t615 = (wrap64 (bt634.1 + 1)) then (if t616 = true then (some (t615 != (ji15))) else (some true)) else (some false)) else (some false)) else (some false))) else ((prebendlaw17_awake.f k).bind fun t637 => (if t637 = true then (if (t616 == bt634.2) = true then (if t615 = bt634.1 then (if t616 = true then (some (t615 != (ji15))) else (some true)) else (some false)) else (some false)) else (some false)))) else ((prebendlaw17_awake.f k).bind fun t638 => (if t638 = true then (if (t616 == bt634.2) = true then (if t615 = bt634.1 then (if t616 = true then (some (t615 != (ji15))) else (some true)) else (some false)) else (some false)) else (some false))))) else (none))) else (none)) else (none))) else (none))) else (none)) = some r := by first | (rw [hy617]; with_reducible exact H) | (have H2_ := (Option.bind_some _ _).symm.trans H; rw [hy617]; with_reducible exact H2_) | (have H2_ := (Option.bind_some _ _).symm.trans H; with_reducible exact H2_) | with_reducible exact H | (rw [hy617]; exact H) | exact H
      have Ny617 := Aside0.mk hy617
      clear hy617
      have c20b0 := eq_true (of_decide_eq_true (by first | (with_reducible assumption) | assumption) : 0 ≤ (ji15))
      by_cases c21 : (ji15) ≤ (t607.length : Int)
      ·rw [if_pos c21] at H
       have c21b0 := eq_true c21
       have c21b1 : decide ((ji15) ≤ (t607.length : Int)) = true := decide_eq_true c21
       clear c21
       obtain ⟨y620, hy620⟩ : ∃ y_ : List (S52), y_ = (t607.take ((ji15) : Int).toNat) := ⟨_, rfl⟩
       replace H : (if y617.length + y620.length < 8796093022208 then ((some (y617 ++ y620 : List (S52))).bind fun y624 => (if 0 ≤ (wrap64 ((ji15) + 1)) then (if (wrap64 ((ji15) + 1)) ≤ (t607.length : Int) then ((some (t607.drop ((wrap64 ((ji15) + 1)) : Int).toNat : List (S52))).bind fun y627 => (if y624.length + y627.length < 8796093022208 then ((easy_Next.f k 0 (wrap64 (Int.tmod a0 40)) t604 (y624 ++ y627) ([] : List Bool)).bind fun bt634 => (if bt634.1 ≥ (ji15) then (if bt634.2 = true then ((prebendlaw17_awake.f k).bind fun t636 => (if t636 = true then (if (t616 == bt634.2) = true then (if t615 = (wrap64 (bt634.1 + 1)) then (if t616 = true then (some (t615 != (ji15))) else (some true)) else (some false)) else (some false)) else (some false))) else ((prebendlaw17_awake.f k).bind fun t637 => (if t637 = true then (if (t616 == bt634.2) = true then (if t615 = bt634.1 then (if t616 = true then (some (t615 != (ji15))) else (some true)) else (some false)) else (some false)) else (some false)))) else ((prebendlaw17_awake.f k).bind fun t638 => (if t638 = true then (if (t616 == bt634.2) = true then (if t615 = bt634.1 then (if t616 = true then (some (t615 != (ji15))) else (some true)) else (some false)) else (some false)) else (some false))))) else (none))) else (none)) else (none))) else (none)) = some r := by first | (rw [hy620]; with_reducible exact H) | (have H2_ := (Option.bind_some _ _).symm.trans H; rw [hy620]; with_reducible exact H2_) | (have H2_ := (Option.bind_some _ _).symm.trans H; with_reducible exact H2_) | with_reducible exact H | (rw [hy620]; exact H) | exact H
       have Ny620 := Aside0.mk hy620
       clear hy620
       by_cases c22 : y617.length + y620.length < 8796093022208
       ·rw [if_pos c22] at H
        have LMc22 := Aside0.mk c22
        clear c22
        obtain ⟨y624, hy624⟩ : ∃ y_ : List (S52), y_ = (y617 ++ y620) := ⟨_, rfl⟩
        replace H : (if 0 ≤ (wrap64 ((ji15) + 1)) then (if (wrap64 ((ji15) + 1)) ≤ (t607.length : Int) then ((some (t607.drop ((wrap64 ((ji15) + 1)) : Int).toNat : List (S52))).bind fun y627 => (if y624.length + y627.length < 8796093022208 then ((easy_Next.f k 0 (wrap64 (Int.tmod a0 40)) t604 (y624 ++ y627) ([] : List Bool)).bind fun bt634 => (if bt634.1 ≥ (ji15) then (if bt634.2 = true then ((prebendlaw17_awake.f k).bind fun t636 => (if t636 = true then (if (t616 == bt634.2) = true then (if t615 = (wrap64 (bt634.1 + 1)) then (if t616 = true then (some (t615 != (ji15))) else (some true)) else (some false)) else (some false)) else (some false))) else ((prebendlaw17_awake.f k).bind fun t637 => (if t637 = true then (if (t616 == bt634.2) = true then (if t615 = bt634.1 then (if t616 = true then (some (t615 != (ji15))) else (some true)) else (some false)) else (some false)) else (some false)))) else ((prebendlaw17_awake.f k).bind fun t638 => (if t638 = true then (if (t616 == bt634.2) = true then (if t615 = bt634.1 then (if t616 = true then (some (t615 != (ji15))) else (some true)) else (some false)) else (some false)) else (some false))))) else (none))) else (none)) else (none)) = some r := by first | (rw [hy624]; with_reducible exact H) | (have H2_ := (Option.bind_some _ _).symm.trans H; rw [hy624]; with_reducible exact H2_) | (have H2_ := (Option.bind_some _ _).symm.trans H; with_reducible exact H2_) | with_reducible exact H | (rw [hy624]; exact H) | exact H
        have Ny624 := Aside0.mk hy624
        clear hy624
        obtain ⟨ji23, hji23⟩ : ∃ j_ : Int, (wrap64 ((ji15) + 1)) = j_ := ⟨_, rfl⟩
        replace H : (if 0 ≤ (ji23) then (if (ji23) ≤ (t607.length : Int) then ((some (t607.drop ((ji23) : Int).toNat : List (S52))).bind fun y627 => (if y624.length + y627.length < 8796093022208 then ((easy_Next.f k 0 (wrap64 (Int.tmod a0 40)) t604 (y624 ++ y627) ([] : List Bool)).bind fun bt634 => (if bt634.1 ≥ (ji15) then (if bt634.2 = true then ((prebendlaw17_awake.f k).bind fun t636 => (if t636 = true then (if (t616 == bt634.2) = true then (if t615 = (wrap64 (bt634.1 + 1)) then (if t616 = true then (some (t615 != (ji15))) else (some true)) else (some false)) else (some false)) else (some false))) else ((prebendlaw17_awake.f k).bind fun t637 => (if t637 = true then (if (t616 == bt634.2) = true then (if t615 = bt634.1 then (if t616 = true then (some (t615 != (ji15))) else (some true)) else (some false)) else (some false)) else (some false)))) else ((prebendlaw17_awake.f k).bind fun t638 => (if t638 = true then (if (t616 == bt634.2) = true then (if t615 = bt634.1 then (if t616 = true then (some (t615 != (ji15))) else (some true)) else (some false)) else (some false)) else (some false))))) else (none))) else (none)) else (none)) = some r := by first | (rw [hji23] at H; exact H) | (simp only [hji23] at H ⊢; exact H)
        (try rw [hji23] at A5)
        (try rw [hji23] at A6)
        (try rw [hji23] at A19)
        have hji23w : (IntKind.i64.wrap ((ji15) + 1)) = ji23 := (i64_w _).trans hji23
        by_cases c24 : 0 ≤ (ji23)
        ·rw [if_pos c24] at H
         have c24b0 := eq_true c24
         have c24b1 : decide (0 ≤ (ji23)) = true := decide_eq_true c24
         clear c24
         by_cases c25 : (ji23) ≤ (t607.length : Int)
         ·rw [if_pos c25] at H
          have c25b0 := eq_true c25
          have c25b1 : decide ((ji23) ≤ (t607.length : Int)) = true := decide_eq_true c25
          clear c25
          obtain ⟨y627, hy627⟩ : ∃ y_ : List (S52), y_ = (t607.drop ((ji23) : Int).toNat) := ⟨_, rfl⟩
          replace H : (if y624.length + y627.length < 8796093022208 then ((easy_Next.f k 0 (wrap64 (Int.tmod a0 40)) t604 (y624 ++ y627) ([] : List Bool)).bind fun bt634 => (if bt634.1 ≥ (ji15) then (if bt634.2 = true then ((prebendlaw17_awake.f k).bind fun t636 => (if t636 = true then (if (t616 == bt634.2) = true then (if t615 = (wrap64 (bt634.1 + 1)) then (if t616 = true then (some (t615 != (ji15))) else (some true)) else (some false)) else (some false)) else (some false))) else ((prebendlaw17_awake.f k).bind fun t637 => (if t637 = true then (if (t616 == bt634.2) = true then (if t615 = bt634.1 then (if t616 = true then (some (t615 != (ji15))) else (some true)) else (some false)) else (some false)) else (some false)))) else ((prebendlaw17_awake.f k).bind fun t638 => (if t638 = true then (if (t616 == bt634.2) = true then (if t615 = bt634.1 then (if t616 = true then (some (t615 != (ji15))) else (some true)) else (some false)) else (some false)) else (some false))))) else (none)) = some r := by first | (rw [hy627]; with_reducible exact H) | (have H2_ := (Option.bind_some _ _).symm.trans H; rw [hy627]; with_reducible exact H2_) | (have H2_ := (Option.bind_some _ _).symm.trans H; with_reducible exact H2_) | with_reducible exact H | (rw [hy627]; exact H) | exact H
          have Ny627 := Aside0.mk hy627
          clear hy627
          by_cases c26 : y624.length + y627.length < 8796093022208
          ·rw [if_pos c26] at H
           have LMc26 := Aside0.mk c26
           clear c26
           obtain ⟨y631, hy631⟩ : ∃ y_ : List (S52), y_ = (y624 ++ y627) := ⟨_, rfl⟩
           replace H : ((easy_Next.f k 0 (wrap64 (Int.tmod a0 40)) t604 y631 ([] : List Bool)).bind fun bt634 => (if bt634.1 ≥ (ji15) then (if bt634.2 = true then ((prebendlaw17_awake.f k).bind fun t636 => (if t636 = true then (if (t616 == bt634.2) = true then (if t615 = (wrap64 (bt634.1 + 1)) then (if t616 = true then (some (t615 != (ji15))) else (some true)) else (some false)) else (some false)) else (some false))) else ((prebendlaw17_awake.f k).bind fun t637 => (if t637 = true then (if (t616 == bt634.2) = true then (if t615 = bt634.1 then (if t616 = true then (some (t615 != (ji15))) else (some true)) else (some false)) else (some false)) else (some false)))) else ((prebendlaw17_awake.f k).bind fun t638 => (if t638 = true then (if (t616 == bt634.2) = true then (if t615 = bt634.1 then (if t616 = true then (some (t615 != (ji15))) else (some true)) else (some false)) else (some false)) else (some false))))) = some r := by first | (rw [hy631]; with_reducible exact H) | (have H2_ := (Option.bind_some _ _).symm.trans H; rw [hy631]; with_reducible exact H2_) | (have H2_ := (Option.bind_some _ _).symm.trans H; with_reducible exact H2_) | with_reducible exact H | (rw [hy631]; exact H) | exact H
           have Ny631 := Aside0.mk hy631
           clear hy631
           replace H := Option.bind_eq_some_iff.mp H
           obtain ⟨⟨t634, t635⟩, A270, H⟩ := H
           replace H : (if t634 ≥ (ji15) then (if t635 = true then ((prebendlaw17_awake.f k).bind fun t636 => (if t636 = true then (if (t616 == t635) = true then (if t615 = (wrap64 (t634 + 1)) then (if t616 = true then (some (t615 != (ji15))) else (some true)) else (some false)) else (some false)) else (some false))) else ((prebendlaw17_awake.f k).bind fun t637 => (if t637 = true then (if (t616 == t635) = true then (if t615 = t634 then (if t616 = true then (some (t615 != (ji15))) else (some true)) else (some false)) else (some false)) else (some false)))) else ((prebendlaw17_awake.f k).bind fun t638 => (if t638 = true then (if (t616 == t635) = true then (if t615 = t634 then (if t616 = true then (some (t615 != (ji15))) else (some true)) else (some false)) else (some false)) else (some false)))) = some r := H
           have A27 := Aside0.mk A270
           clear A270
           go_enter Try.func9, Try.ntmps9
           try go_wp2_with (first | ((with_reducible refine gate_callee (f := 25) rfl ?_); refine goesL_ (some 22) rfl rfl Try.func25 (by kernel_rfl) rfl #[.slice A1 l1.length c1] rfl (by (try simp only [List.map_toArray, List.map_cons, List.map_nil]); first | done | rfl | (simp only [List.length_drop, List.length_take]; rfl)) ?_; (with_reducible refine (prebendref17_Busy.calls k _ _ l1 t604 _ ?side1 ?side2 A5.out).mono ?_); (case side1 => repeat (first | exact HR1.out | (with_reducible refine Kd.C_alloc ?_ _) | (with_reducible refine Kd.C_drewN ?_ _) | (with_reducible refine Kd.C_drew ?_))); (case side2 => exact HC1.out); rintro e w311 ⟨v605, rfl, ho0, hb⟩; refine ⟨_, rfl, ?_⟩; have n0_ := Aside0.mk (Kd.R_lower ho0 (below_size (by repeat (first | (with_reducible first | exact HB.out | apply below_alloc | apply pw_below_drewN | apply below_drew1) | exact HB.out)))); have n1_ := Aside0.mk (below_step (by repeat (first | (with_reducible first | exact HB.out | apply below_alloc | apply pw_below_drewN | apply below_drew1) | exact HB.out)) hb); clear HB; have HO606 := n0_; have HB := n1_; clear n0_ n1_; (try clear hb); (try clear hb2); (try clear hk); (try clear hi); (try clear ho0)) | ((with_reducible refine gate_callee (f := 26) rfl ?_); refine goesL_ (some 24) rfl rfl Try.func26 (by kernel_rfl) rfl #[.slice A2 l2.length c2] rfl (by (try simp only [List.map_toArray, List.map_cons, List.map_nil]); first | done | rfl | (simp only [List.length_drop, List.length_take]; rfl)) ?_; (with_reducible refine (prebendref17_Asks.calls k _ _ l2 t607 _ ?side1 ?side2 A6.out).mono ?_); (case side1 => repeat (first | exact (Kd.C_below HR2.out HB.out) | (with_reducible refine Kd.C_alloc ?_ _) | (with_reducible refine Kd.C_drewN ?_ _) | (with_reducible refine Kd.C_drew ?_))); (case side2 => exact HC2.out); rintro e w312 ⟨v608, rfl, ho0, hb⟩; refine ⟨_, rfl, ?_⟩; have n0_ := Aside0.mk (Kd.R_below (by (with_reducible repeat (first | apply Kd.R_alloc | apply Kd.R_drewN | apply Kd.R_drew)); exact HO606.out) hb); have n1_ := Aside0.mk (Kd.R_lower ho0 (below_size (by repeat (first | (with_reducible first | exact HB.out | apply below_alloc | apply pw_below_drewN | apply below_drew1) | exact HB.out)))); have n2_ := Aside0.mk (below_step (by repeat (first | (with_reducible first | exact HB.out | apply below_alloc | apply pw_below_drewN | apply below_drew1) | exact HB.out)) hb); clear HO606; clear HB; have HO606 := n0_; have HO609 := n1_; have HB := n2_; clear n0_ n1_ n2_; (try clear hb); (try clear hb2); (try clear hk); (try clear hi); (try clear ho0); obtain ⟨Ao313, co313, eo313⟩ := Kd.R_slice HO609.out; subst eo313) | ((with_reducible refine gate_dst (N := 36) rfl ?_); refine Kd.R_make Kd.bool _ 4 rfl (N := 36) rfl 45 _ _ rfl (t607.length : Int) rfl rfl Try.underlying45 (.bool false) 1 info4 rfl (by decide) (by omega) false (ok := fun _ => True) (okp := fun _ => True) rfl (fun _ hk => hk) trivial (of_decide_eq_true (by first | (with_reducible assumption) | assumption)) (Nat.le_trans (Nat.mul_le_mul_right _ (of_decide_eq_true (by first | (with_reducible assumption) | assumption) : (t607.length : Int).toNat ≤ 281474976710656)) (by omega)) (Below.refl _ _) (Nat.le_refl _) ?_; intro v612 w314 ho315 hb hg_ hnew_; clear hg_ hnew_; (first | rw [← Ny611.out] at ho315 | (simp only [Int.reduceToNat] at ho315; rw [← Ny611.out] at ho315)); have n0_ := Aside0.mk (Kd.R_below (by (with_reducible repeat (first | apply Kd.R_alloc | apply Kd.R_drewN | apply Kd.R_drew)); exact HO606.out) hb); have n1_ := Aside0.mk (Kd.R_below (by (with_reducible repeat (first | apply Kd.R_alloc | apply Kd.R_drewN | apply Kd.R_drew)); exact HO609.out) hb); have n2_ := Aside0.mk (Kd.R_lower ho315 (below_size (by repeat (first | (with_reducible first | exact HB.out | apply below_alloc | apply pw_below_drewN | apply below_drew1) | exact HB.out)))); have n3_ := Aside0.mk (below_step (by repeat (first | (with_reducible first | exact HB.out | apply below_alloc | apply pw_below_drewN | apply below_drew1) | exact HB.out)) hb); clear HO606; clear HO609; clear HB; have HO606 := n0_; have HO609 := n1_; have HO613 := n2_; have HB := n3_; clear n0_ n1_ n2_ n3_; clear hb ho315; have p18 : 0 ≤ ((ji15) : Int) := of_decide_eq_true (by first | (with_reducible assumption) | assumption); have q18 : ((ji15) : Int) < ((y611.length : Int) : Int) := of_decide_eq_true (by first | (with_reducible assumption) | assumption); obtain ⟨go18, co18, eo18, gb18, gl18, cl18, HG18⟩ := Kd.R_form HO613.out (by omega); (first | cases eo18 | (injection eo18 with ea_ en_ ec_; (first | subst ea_ | (injection ea_ with ea_; subst ea_)); subst ec_; clear en_)); have GB18 := Aside0.mk gb18; have GG18 := Aside0.mk HG18; clear gb18 gl18 HG18; obtain ⟨hx18_0, hf18_0⟩ := Kd.R_celln false HO613.out ((ji15) : Int) p18 q18; replace p18 := eq_true p18; replace q18 := eq_true q18; obtain ⟨hy316_, hz316_⟩ := Kd.R_celln false HO613.out ((ji15) : Int) (of_decide_eq_true (by first | (with_reducible assumption) | assumption)) (of_decide_eq_true (by first | (with_reducible assumption) | assumption)); have HP316 := Kd.R_putg HO613.out ((ji15) : Int) true) | ((with_reducible refine gate_store (t := 4) (p := 39) rfl ?_); refine store_event (t := 4) (p := 39) (v := ?vo_w317) (w1 := (w314.setCell ⟨go18, ((ji15) : Int).toNat, none⟩ (.bool true))) ?hg ?ho ?hn ?hr ?_; (case ho => rfl); (case hg => rfl); (case hn => rfl); (case hr => first | (go_simp; done) | (go_simp; rfl)); intro w317 hw; have hg : w314.grownBy w317 (some go18) := (by rw [hw]; exact HP316.2); have hp_ : Kd.R Kd.bool 4 w317 w.heap.size (fun _ => True) (.slice (some ⟨go18, 0, none⟩) y611.length co18) y614 := (by rw [hw, Ny614.out]; exact HP316.1); clear HP316; have n0_ := Aside0.mk (Kd.R_over' (v := (.slice (some ⟨go18, 0, none⟩) y611.length co18)) (by (with_reducible repeat (first | apply Kd.R_alloc | apply Kd.R_drewN | apply Kd.R_drew)); exact HO606.out) (Kd.R_typed HO613.out) (by decide) hg); have n1_ := Aside0.mk (Kd.R_over' (v := (.slice (some ⟨go18, 0, none⟩) y611.length co18)) (by (with_reducible repeat (first | apply Kd.R_alloc | apply Kd.R_drewN | apply Kd.R_drew)); exact HO609.out) (Kd.R_typed HO613.out) (by decide) hg); have n2_ := Aside0.mk (hp_); have n3_ := Aside0.mk ((by rw [hw]; exact below_set (HB.out) GB18.out : Below w.heap.size w w317)); clear HO606; clear HO609; clear HO613; clear HB; have HO606 := n0_; have HO609 := n1_; have HO613 := n2_; have HB := n3_; clear n0_ n1_ n2_ n3_; clear hg hw hp_; obtain ⟨Ao318, co318, eo318⟩ := Kd.R_slice HO606.out; subst eo318) | ((with_reducible refine gate_callee (f := 27) rfl ?_); refine goesL_ (some 45) rfl rfl Try.func27 (by kernel_rfl) rfl #[.int .i64 0, .int .i64 (wrap64 (Int.tmod a0 40)), .slice Ao318 t604.length co318, .slice Ao313 t607.length co313, .slice (some ⟨go18, 0, none⟩) y614.length co18] rfl (by (try simp only [List.map_toArray, List.map_cons, List.map_nil]); first | done | (rw [show y614.length = y611.length from (Kd.R_reads' HO613.out).1.symm] <;> rfl) | rfl | (simp only [List.length_drop, List.length_take]; rfl)) ?_; (with_reducible refine (easy_Next.calls k 0 (wrap64 (Int.tmod a0 40)) _ _ t604 _ _ t607 _ _ y614 t615 t616 _ ?side1 ?side2 ?side3 ?side4 ?side5 ?side6 A19.out).mono ?_); (case side1 => repeat (first | exact (Kd.R_reads' HO606.out).2.2 | (with_reducible refine Kd.C_alloc ?_ _) | (with_reducible refine Kd.C_drewN ?_ _) | (with_reducible refine Kd.C_drew ?_))); (case side2 => exact (Kd.R_reads' HO606.out).2.1); (case side3 => repeat (first | exact (Kd.R_reads' HO609.out).2.2 | (with_reducible refine Kd.C_alloc ?_ _) | (with_reducible refine Kd.C_drewN ?_ _) | (with_reducible refine Kd.C_drew ?_))); (case side4 => exact (Kd.R_reads' HO609.out).2.1); (case side5 => repeat (first | exact (Kd.R_reads' HO613.out).2.2 | (with_reducible refine Kd.C_alloc ?_ _) | (with_reducible refine Kd.C_drewN ?_ _) | (with_reducible refine Kd.C_drew ?_))); (case side6 => rw [show y614.length = y611.length from (Kd.R_reads' HO613.out).1.symm]; exact (Kd.R_reads' HO613.out).2.1); rintro e w319 ⟨rfl, hb⟩; refine ⟨_, rfl, ?_⟩; have n0_ := Aside0.mk (Kd.R_below (by (with_reducible repeat (first | apply Kd.R_alloc | apply Kd.R_drewN | apply Kd.R_drew)); exact HO606.out) hb); have n1_ := Aside0.mk (Kd.R_below (by (with_reducible repeat (first | apply Kd.R_alloc | apply Kd.R_drewN | apply Kd.R_drew)); exact HO609.out) hb); have n2_ := Aside0.mk (Kd.R_below (by (with_reducible repeat (first | apply Kd.R_alloc | apply Kd.R_drewN | apply Kd.R_drew)); exact HO613.out) hb); have n3_ := Aside0.mk (below_step (by repeat (first | (with_reducible first | exact HB.out | apply below_alloc | apply pw_below_drewN | apply below_drew1) | exact HB.out)) hb); clear HO606; clear HO609; clear HO613; clear HB; have HO606 := n0_; have HO609 := n1_; have HO613 := n2_; have HB := n3_; clear n0_ n1_ n2_ n3_; (try clear hb); (try clear hb2); (try clear hk); (try clear hi)))
           have n0_ := Aside0.mk (Kd.R_drew HO606.out)
           have n1_ := Aside0.mk (Kd.R_drew HO609.out)
           have n2_ := Aside0.mk (Kd.R_drew HO613.out)
           have n3_ := Aside0.mk (below_drew1 HB.out)
           clear HO606
           clear HO609
           clear HO613
           clear HB
           have HO606 := n0_
           have HO609 := n1_
           have HO613 := n2_
           have HB := n3_
           clear n0_ n1_ n2_ n3_
           have q321 : ((ji15) : Int) ≤ ((t607.length : Int) : Int) := of_decide_eq_true (by first | (with_reducible assumption) | assumption)
           obtain ⟨i0321, hi0321, _, hsz321, _⟩ := info_parts info52
           have hroom321 : t607.length ≤ co313 := (Kd.R_reads' HO609.out).2.1
           have hC321 : Kd.C k52 _ Ao313 t607.length t607 := (Kd.R_reads' HO609.out).2.2
           have hcut321 := cut_to (P := Try.prog) 44 52 .i64 Try.underlying44 hi0321 Ao313 t607.length co313 (ji15) (of_decide_eq_true (by first | (with_reducible assumption) | assumption)) q321 hroom321
           have hr321 := Kd.C_take (m := ((ji15) : Int).toNat) hC321 (by omega)
           have hy321 : y620.length = ((ji15) : Int).toNat := (by rw [Ny620.out, List.length_take]; omega)
           rw [← Ny620.out] at hr321
           rw [← hy321] at hcut321
           have HR623 := Aside0.mk hr321
           have HC623 := Aside0.mk (show y620.length ≤ co313 from by omega)
           clear hr321 hC321 hroom321 hi0321 hsz321
           have KY321 := Aside0.mk hy321
           clear hy321
           have KL321 := Aside0.mk (show ((ji15) : Int).toNat ≤ t607.length from by omega)
           replace q321 := eq_true q321
           have q322 : ((ji23) : Int) ≤ ((t607.length : Int) : Int) := of_decide_eq_true (by first | (with_reducible assumption) | assumption)
           obtain ⟨i0322, hi0322, _, hsz322, _⟩ := info_parts info52
           have hroom322 : t607.length ≤ co313 := (Kd.R_reads' HO609.out).2.1
           have hC322 : Kd.C k52 _ Ao313 t607.length t607 := (Kd.R_reads' HO609.out).2.2
           have q0322 : (0 : Int) ≤ ((ji23) : Int) := of_decide_eq_true (by first | (with_reducible assumption) | assumption)
           have hcut322 := cut_from (P := Try.prog) 44 52 .i64 Try.underlying44 hi0322 2 hsz322 Ao313 t607.length co313 (ji23) q0322 q322
           have hr322 := Kd.C_drop (m := ((ji23) : Int).toNat) (c := co313) hC322 (by omega) hroom322
           obtain ⟨A322, hA322⟩ : ∃ A1, A1 = (if co313 = ((ji23) : Int).toNat then Ao313 else (Ao313 : Option Addr).map (·.add (((ji23) : Int).toNat * 2))) := ⟨_, rfl⟩
           obtain ⟨c322, hc322⟩ : ∃ c1, c1 = co313 - ((ji23) : Int).toNat := ⟨_, rfl⟩
           have hy322 : y627.length = t607.length - ((ji23) : Int).toNat := (by rw [Ny627.out, List.length_drop] <;> omega)
           rw [show (t607).drop ((ji23) : Int).toNat = y627 from Ny627.out.symm] at hr322
           replace hr322 : Kd.C k52 _ A322 y627.length y627 := (by rw [hA322]; exact hr322)
           rw [← hy322, ← hA322, ← hc322] at hcut322
           have HR630 := Aside0.mk hr322
           have HC630 := Aside0.mk (show y627.length ≤ c322 from by rw [hy322, hc322]; exact Nat.sub_le_sub_right hroom322 _)
           clear hr322 hC322 hroom322 hi0322 hsz322 hc322
           have KY322 := Aside0.mk hy322
           have KA322 := Aside0.mk hA322
           clear hy322 hA322
           have KL322 := Aside0.mk (show ((ji23) : Int).toNat ≤ t607.length from by omega)
           replace q322 := eq_true q322
           refine start_ (n := 18) (S := fun w' => True) (ds := []) #[false, false, false, false, false, false, false, false, false, false, false, false, false, false, false, false, false, false] (by kernel_rfl) rfl rfl trivial (fun hHeld => ?_); refine with_tabW prebendlaw17_EasyRefused.tab9 prebendlaw17_EasyRefused.bits9 (fun HT_ HW_ => ?_)
           generalize w319.drew = w320 at HO606 HO609 HO613 HB HR623 HR630 hHeld ⊢
           refine pure_ (i := 0) (N := some 49) (v := ?_) (a' := ?_) #[true, false, false, false, false, false, false, false, false, false, false, false, false, false, false, false, false, false] rfl rfl (any_of HT_.out (by kernel_rfl)) (fun _ _ _ h => h) (Or.inl ⟨by rfl, ?_⟩) ?_ ?_
           rotate_left
           ·intro w'
            go_simp
            with_reducible rfl
           rotate_left
           ·simp only [Act.put, List.setIfInBounds_toArray, List.set_cons_zero, List.set_cons_succ, i64_w, i32_w]
            rfl
           refine pure_ (i := 1) (N := some 50) (v := ?_) (a' := ?_) #[true, true, false, false, false, false, false, false, false, false, false, false, false, false, false, false, false, false] rfl rfl (any_of HT_.out (by kernel_rfl)) (fun _ _ _ h => h) (Or.inl ⟨by rfl, ?_⟩) ?_ ?_
           rotate_left
           ·intro w'
            go_simp
            with_reducible rfl
           rotate_left
           ·simp only [Act.put, List.setIfInBounds_toArray, List.set_cons_zero, List.set_cons_succ, i64_w, i32_w]
            rfl
           refine pure_ (i := 3) (N := some 52) (v := ?_) (a' := ?_) #[true, true, false, true, false, false, false, false, false, false, false, false, false, false, false, false, false, false] rfl rfl (any_of HT_.out (by kernel_rfl)) (fun _ _ _ h => h) (Or.inl ⟨by rfl, ?_⟩) ?_ ?_
           rotate_left
           ·intro w'
            go_simp
            with_reducible rfl
           rotate_left
           ·simp only [Act.put, List.setIfInBounds_toArray, List.set_cons_zero, List.set_cons_succ, i64_w, i32_w]
            rfl
           refine pure_ (i := 4) (N := some 53) (v := ?_) (a' := ?_) #[true, true, false, true, true, false, false, false, false, false, false, false, false, false, false, false, false, false] rfl rfl (any_of HT_.out (by kernel_rfl)) (fun _ _ _ h => h) (Or.inl ⟨by rfl, ?_⟩) ?_ ?_
           rotate_left
           ·intro w'
            go_simp
            with_reducible rfl
           rotate_left
           ·simp only [Act.put, List.setIfInBounds_toArray, List.set_cons_zero, List.set_cons_succ, i64_w, i32_w]
            rfl
           refine pure_ (i := 5) (N := some 54) (v := ?_) (a' := ?_) #[true, true, false, true, true, true, false, false, false, false, false, false, false, false, false, false, false, false] rfl rfl (any_of HT_.out (by kernel_rfl)) (fun _ _ _ h => h) (Or.inl ⟨by rfl, ?_⟩) ?_ ?_
           rotate_left
           ·intro w'
            go_simp
            with_reducible rfl
           rotate_left
           ·simp only [Act.put, List.setIfInBounds_toArray, List.set_cons_zero, List.set_cons_succ, i64_w, i32_w]
            rfl
           refine pure_ (i := 7) (N := some 56) (v := ?_) (a' := ?_) #[true, true, false, true, true, true, false, true, false, false, false, false, false, false, false, false, false, false] rfl rfl (any_of HT_.out (by kernel_rfl)) (fun _ _ _ h => h) (Or.inl ⟨by rfl, ?_⟩) ?_ ?_
           rotate_left
           ·intro w'
            go_simp
            with_reducible rfl
           rotate_left
           ·simp only [Act.put, List.setIfInBounds_toArray, List.set_cons_zero, List.set_cons_succ, i64_w, i32_w]
            rfl
           refine pure_ (i := 8) (N := some 57) (v := ?_) (a' := ?_) #[true, true, false, true, true, true, false, true, true, false, false, false, false, false, false, false, false, false] rfl rfl (any_of HT_.out (by kernel_rfl)) (fun _ _ _ h => h) (Or.inl ⟨by rfl, ?_⟩) ?_ ?_
           rotate_left
           ·intro w'
            go_simp
            with_reducible rfl
           rotate_left
           ·simp only [Act.put, List.setIfInBounds_toArray, List.set_cons_zero, List.set_cons_succ, i64_w, i32_w]
            rfl
           refine pure_ (i := 9) (N := some 58) (v := ?_) (a' := ?_) #[true, true, false, true, true, true, false, true, true, true, false, false, false, false, false, false, false, false] rfl rfl (any_of HT_.out (by kernel_rfl)) (fun _ _ _ h => h) (Or.inl ⟨by rfl, ?_⟩) ?_ ?_
           rotate_left
           ·intro w'
            go_simp
            with_reducible rfl
           rotate_left
           ·simp only [Act.put, List.setIfInBounds_toArray, List.set_cons_zero, List.set_cons_succ, i64_w, i32_w]
            rfl
           refine pure_ (i := 10) (N := some 59) (v := ?_) (a' := ?_) #[true, true, false, true, true, true, false, true, true, true, true, false, false, false, false, false, false, false] rfl rfl (any_of HT_.out (by kernel_rfl)) (fun _ _ _ h => h) (Or.inl ⟨by rfl, ?_⟩) ?_ ?_
           rotate_left
           ·intro w'
            go_simp
            with_reducible rfl
           rotate_left
           ·simp only [Act.put, List.setIfInBounds_toArray, List.set_cons_zero, List.set_cons_succ, i64_w, i32_w]
            rfl
           refine one_ (i := 2) (N := some 51) #[true, true, true, true, true, true, false, true, true, true, true, false, false, false, false, false, false, false] rfl rfl (one_of HT_.out (by kernel_rfl)) (by decide) (fun K hK => ?_)
           refine Kd.R_lit_step k52 _ 52 ?hg (N := 51) ?hd (xs := ([] : List (S52))) (inner := []) (ok := fun _ => True) (okp := fun _ => True) ?hr ?hp (fun _ hk => hk) trivial (Below.refl _ _) (Nat.le_refl _) (by simp) ?_; (case hd => rfl); (case hg => rfl); (case hr => first | (go_simp; done) | (go_simp; rfl)); (case hp => exact (Reps.none _ _))
           intro v618 w323 ho324 hb hg_ hnew_
           clear hg_ hnew_
           (first | rw [← Ny617.out] at ho324 | (simp only [Int.reduceToNat] at ho324; rw [← Ny617.out] at ho324))
           have n0_ := Aside0.mk (Kd.R_below (by (with_reducible repeat (first | apply Kd.R_alloc | apply Kd.R_drewN | apply Kd.R_drew)); exact HO606.out) hb)
           have n1_ := Aside0.mk (Kd.R_elder' (by (with_reducible repeat (first | apply Kd.R_alloc | apply Kd.R_drewN | apply Kd.R_drew)); exact HO609.out) (Kd.R_base ho324) hb)
           have n2_ := Aside0.mk (Kd.R_below (by (with_reducible repeat (first | apply Kd.R_alloc | apply Kd.R_drewN | apply Kd.R_drew)); exact HO613.out) hb)
           have n3_ := Aside0.mk (Kd.R_lower (Kd.R_new' ho324 (Kd.R_lt (by (with_reducible repeat (first | apply Kd.R_alloc | apply Kd.R_drewN | apply Kd.R_drew)); exact HO609.out))) (below_size (by repeat (first | (with_reducible first | exact HB.out | apply below_alloc | apply pw_below_drewN | apply below_drew1) | exact HB.out))))
           have n4_ := Aside0.mk (Kd.C_below (by repeat (first | (with_reducible exact HR623.out) | (with_reducible refine Kd.C_alloc ?_ _) | (with_reducible refine Kd.C_drewN ?_ _) | (with_reducible refine Kd.C_drew ?_) | exact HR623.out)) hb)
           have n5_ := Aside0.mk (Kd.C_below (by repeat (first | (with_reducible exact HR630.out) | (with_reducible refine Kd.C_alloc ?_ _) | (with_reducible refine Kd.C_drewN ?_ _) | (with_reducible refine Kd.C_drew ?_) | exact HR630.out)) hb)
           have n6_ := Aside0.mk (below_step (by repeat (first | (with_reducible first | exact HB.out | apply below_alloc | apply pw_below_drewN | apply below_drew1) | exact HB.out)) hb)
           clear HO606
           clear HO609
           clear HO613
           clear HR623
           clear HR630
           clear HB
           have HO606 := n0_
           have HO609 := n1_
           have HO613 := n2_
           have HO619 := n3_
           have HR623 := n4_
           have HR630 := n5_
           have HB := n6_
           clear n0_ n1_ n2_ n3_ n4_ n5_ n6_
           clear hb ho324
           refine hK.out _ _ trivial (fun hHeld => ?_)
           clear hK K
           refine norm_ (a' := ?_) ?_ ?_
           rotate_left
           ·show Act.put _ (some 51) _ = _
            simp only [Act.put, List.setIfInBounds_toArray, List.set_cons_zero, List.set_cons_succ, i64_w, i32_w]
            rfl
           refine one_ (i := 6) (N := some 55) #[true, true, true, true, true, true, true, true, true, true, true, false, false, false, false, false, false, false] rfl rfl (one_of HT_.out (by kernel_rfl)) (by decide) (fun K hK => ?_)
           refine Kd.R_append_rows_step k52 (w0 := w) w.heap.size (by rfl) (.tmp 51) (.tmp 54) 44 52 (.agg #[(.int .i64 0), (.int .i64 0)]) 16 rfl Try.underlying44 info52 rfl (by decide) (by omega) v618 y617 y620 _ _ _ (fun k_ => some k_ ≠ (.slice Ao313 t607.length co313 : Value).ownBlock) (fun _ => False) rfl rfl ?aO ?aR (fun _ _ h => h) (fun _ h => h.elim) ?aF ?aB ?aS ?aL ?_
           (case aR => repeat (first | exact (by repeat (first | (with_reducible exact HR623.out) | (with_reducible refine Kd.C_alloc ?_ _) | (with_reducible refine Kd.C_drewN ?_ _) | (with_reducible refine Kd.C_drew ?_) | exact HR623.out)) | (with_reducible refine Kd.C_alloc ?_ _) | (with_reducible refine Kd.C_drewN ?_ _) | (with_reducible refine Kd.C_drew ?_)))
           (case aB => exact (by repeat (first | (with_reducible first | exact HB.out | apply below_alloc | apply pw_below_drewN | apply below_drew1) | exact HB.out)))
           (case aF => exact (fun k_ hk => Kd.fresh' (Kd.R_lt (by (with_reducible repeat (first | apply Kd.R_alloc | apply Kd.R_drewN | apply Kd.R_drew)); exact HO609.out)) k_ hk))
           (case aO => exact (by (with_reducible repeat (first | apply Kd.R_alloc | apply Kd.R_drewN | apply Kd.R_drew)); exact Kd.R_mono HO619.out (fun _ hk => hk.2)))
           (case aS => exact (below_size (by repeat (first | (with_reducible first | exact HB.out | apply below_alloc | apply pw_below_drewN | apply below_drew1) | exact HB.out))))
           (case aL => have := LMc22.out; omega)
           intro v625 w325 ho hb hg hat
           rw [← Ny624.out] at ho
           have n0_ := Aside0.mk (Kd.R_over' (by (with_reducible repeat (first | apply Kd.R_alloc | apply Kd.R_drewN | apply Kd.R_drew)); exact HO606.out) (Kd.R_typed (by (with_reducible repeat (first | apply Kd.R_alloc | apply Kd.R_drewN | apply Kd.R_drew)); exact HO619.out)) (by decide) hg)
           have n1_ := Aside0.mk (Kd.R_after (ok := (fun _ => True)) (by (with_reducible repeat (first | apply Kd.R_alloc | apply Kd.R_drewN | apply Kd.R_drew)); exact HO609.out) hg hat)
           have n2_ := Aside0.mk (Kd.R_over' (by (with_reducible repeat (first | apply Kd.R_alloc | apply Kd.R_drewN | apply Kd.R_drew)); exact HO613.out) (Kd.R_typed (by (with_reducible repeat (first | apply Kd.R_alloc | apply Kd.R_drewN | apply Kd.R_drew)); exact HO619.out)) (by decide) hg)
           have n3_ := Aside0.mk (hb)
           have n4_ := Aside0.mk ((show Kd.C k52 w325 Ao313 y620.length y620 from by rw [Ny620.out]; exact Kd.C_take (m := ((ji15) : Int).toNat) ((Kd.R_reads' (Kd.R_after (ok := (fun _ => True)) (by (with_reducible repeat (first | apply Kd.R_alloc | apply Kd.R_drewN | apply Kd.R_drew)); exact HO609.out) hg hat)).2.2) KL321.out))
           have n5_ := Aside0.mk ((show Kd.C k52 w325 A322 y627.length y627 from by rw [Ny627.out, KA322.out]; exact Kd.C_drop (m := ((ji23) : Int).toNat) (c := co313) ((Kd.R_reads' (Kd.R_after (ok := (fun _ => True)) (by (with_reducible repeat (first | apply Kd.R_alloc | apply Kd.R_drewN | apply Kd.R_drew)); exact HO609.out) hg hat)).2.2) KL322.out ((Kd.R_reads' (Kd.R_after (ok := (fun _ => True)) (by (with_reducible repeat (first | apply Kd.R_alloc | apply Kd.R_drewN | apply Kd.R_drew)); exact HO609.out) hg hat)).2.1)))
           have n6_ := Aside0.mk (ho)
           clear HO606
           clear HO609
           clear HO613
           clear HB
           clear HR623
           clear HR630
           clear HO619
           have HO606 := n0_
           have HO609 := n1_
           have HO613 := n2_
           have HB := n3_
           have HR623 := n4_
           have HR630 := n5_
           have HO626 := n6_
           clear n0_ n1_ n2_ n3_ n4_ n5_ n6_
           clear ho hb hg hat
           refine hK.out _ _ trivial (fun hHeld => ?_)
           clear hK K
           refine norm_ (a' := ?_) ?_ ?_
           rotate_left
           ·show Act.put _ (some 55) _ = _
            simp only [Act.put, List.setIfInBounds_toArray, List.set_cons_zero, List.set_cons_succ, i64_w, i32_w]
            rfl
           refine one_ (i := 11) (N := some 60) #[true, true, true, true, true, true, true, true, true, true, true, true, false, false, false, false, false, false] rfl rfl (one_of HT_.out (by kernel_rfl)) (by decide) (fun K hK => ?_)
           refine Kd.R_append_rows_step k52 (w0 := w) w.heap.size (by rfl) (.tmp 55) (.tmp 59) 44 52 (.agg #[(.int .i64 0), (.int .i64 0)]) 16 rfl Try.underlying44 info52 rfl (by decide) (by omega) v625 y624 y627 _ _ _ (fun k_ => some k_ ≠ (.slice Ao313 t607.length co313 : Value).ownBlock) (fun _ => False) rfl rfl ?aO ?aR (fun _ _ h => h) (fun _ h => h.elim) ?aF ?aB ?aS ?aL ?_
           (case aR => repeat (first | exact (by repeat (first | (with_reducible exact HR630.out) | (with_reducible refine Kd.C_alloc ?_ _) | (with_reducible refine Kd.C_drewN ?_ _) | (with_reducible refine Kd.C_drew ?_) | exact HR630.out)) | (with_reducible refine Kd.C_alloc ?_ _) | (with_reducible refine Kd.C_drewN ?_ _) | (with_reducible refine Kd.C_drew ?_)))
           (case aB => exact (by repeat (first | (with_reducible first | exact HB.out | apply below_alloc | apply pw_below_drewN | apply below_drew1) | exact HB.out)))
           (case aF => exact (fun k_ hk => Kd.fresh' (Kd.R_lt (by (with_reducible repeat (first | apply Kd.R_alloc | apply Kd.R_drewN | apply Kd.R_drew)); exact HO609.out)) k_ hk))
           (case aO => exact (by (with_reducible repeat (first | apply Kd.R_alloc | apply Kd.R_drewN | apply Kd.R_drew)); exact HO626.out))
           (case aS => exact (below_size (by repeat (first | (with_reducible first | exact HB.out | apply below_alloc | apply pw_below_drewN | apply below_drew1) | exact HB.out))))
           (case aL => have := LMc26.out; omega)
           intro v632 w326 ho hb hg hat
           rw [← Ny631.out] at ho
           have n0_ := Aside0.mk (Kd.R_over' (by (with_reducible repeat (first | apply Kd.R_alloc | apply Kd.R_drewN | apply Kd.R_drew)); exact HO606.out) (Kd.R_typed (by (with_reducible repeat (first | apply Kd.R_alloc | apply Kd.R_drewN | apply Kd.R_drew)); exact HO626.out)) (by decide) hg)
           have n1_ := Aside0.mk (Kd.R_after (ok := (fun _ => True)) (by (with_reducible repeat (first | apply Kd.R_alloc | apply Kd.R_drewN | apply Kd.R_drew)); exact HO609.out) hg hat)
           have n2_ := Aside0.mk (Kd.R_over' (by (with_reducible repeat (first | apply Kd.R_alloc | apply Kd.R_drewN | apply Kd.R_drew)); exact HO613.out) (Kd.R_typed (by (with_reducible repeat (first | apply Kd.R_alloc | apply Kd.R_drewN | apply Kd.R_drew)); exact HO626.out)) (by decide) hg)
           have n3_ := Aside0.mk (hb)
           have n4_ := Aside0.mk ((show Kd.C k52 w326 Ao313 y620.length y620 from by rw [Ny620.out]; exact Kd.C_take (m := ((ji15) : Int).toNat) ((Kd.R_reads' (Kd.R_after (ok := (fun _ => True)) (by (with_reducible repeat (first | apply Kd.R_alloc | apply Kd.R_drewN | apply Kd.R_drew)); exact HO609.out) hg hat)).2.2) KL321.out))
           have n5_ := Aside0.mk ((show Kd.C k52 w326 A322 y627.length y627 from by rw [Ny627.out, KA322.out]; exact Kd.C_drop (m := ((ji23) : Int).toNat) (c := co313) ((Kd.R_reads' (Kd.R_after (ok := (fun _ => True)) (by (with_reducible repeat (first | apply Kd.R_alloc | apply Kd.R_drewN | apply Kd.R_drew)); exact HO609.out) hg hat)).2.2) KL322.out ((Kd.R_reads' (Kd.R_after (ok := (fun _ => True)) (by (with_reducible repeat (first | apply Kd.R_alloc | apply Kd.R_drewN | apply Kd.R_drew)); exact HO609.out) hg hat)).2.1)))
           have n6_ := Aside0.mk (ho)
           clear HO606
           clear HO609
           clear HO613
           clear HB
           clear HR623
           clear HR630
           clear HO626
           have HO606 := n0_
           have HO609 := n1_
           have HO613 := n2_
           have HB := n3_
           have HR623 := n4_
           have HR630 := n5_
           have HO633 := n6_
           clear n0_ n1_ n2_ n3_ n4_ n5_ n6_
           clear ho hb hg hat
           obtain ⟨Ao327, co327, eo327⟩ := Kd.R_slice HO633.out
           (first | subst eo327 | (injection eo327 with f1_ f2_ f3_; have f4_ := f1_.symm; have f5_ := f3_.symm; clear f1_ f2_ f3_; subst f4_; subst f5_))
           refine hK.out _ _ trivial (fun hHeld => ?_)
           clear hK K
           refine norm_ (a' := ?_) ?_ ?_
           rotate_left
           ·show Act.put _ (some 60) _ = _
            simp only [Act.put, List.setIfInBounds_toArray, List.set_cons_zero, List.set_cons_succ, i64_w, i32_w]
            rfl
           refine one_ (i := 12) (N := some 61) #[true, true, true, true, true, true, true, true, true, true, true, true, true, false, false, false, false, false] rfl rfl (one_of HT_.out (by kernel_rfl)) (by decide) (fun K hK => ?_)
           refine goes_ Try.func27 (by kernel_rfl) rfl #[.int .i64 0, .int .i64 (wrap64 (Int.tmod a0 40)), .slice Ao318 t604.length co318, .slice Ao327 y631.length co327, .slice none 0 0] (by rfl) rfl rfl (by (try simp only [List.map_toArray, List.map_cons, List.map_nil]); first | done | rfl | (simp only [List.length_drop, List.length_take]; rfl)) ?_
           refine (easy_Next.calls k 0 (wrap64 (Int.tmod a0 40)) _ _ t604 _ _ y631 _ _ ([] : List Bool) t634 t635 _ ?side1 ?side2 ?side3 ?side4 ?side5 ?side6 A27.out).mono ?_
           (case side1 => repeat (first | exact (Kd.R_reads' HO606.out).2.2 | (with_reducible refine Kd.C_alloc ?_ _) | (with_reducible refine Kd.C_drewN ?_ _) | (with_reducible refine Kd.C_drew ?_)))
           (case side2 => exact (Kd.R_reads' HO606.out).2.1)
           (case side3 => repeat (first | exact (Kd.R_reads' HO633.out).2.2 | (with_reducible refine Kd.C_alloc ?_ _) | (with_reducible refine Kd.C_drewN ?_ _) | (with_reducible refine Kd.C_drew ?_)))
           (case side4 => exact (Kd.R_reads' HO633.out).2.1)
           (case side5 => exact Kd.C_nil _ _)
           (case side6 => exact Nat.le_refl _)
           rintro e w328 ⟨rfl, hb⟩
           refine ⟨_, rfl, ?_⟩
           have n0_ := Aside0.mk (Kd.R_below (by (with_reducible repeat (first | apply Kd.R_alloc | apply Kd.R_drewN | apply Kd.R_drew)); exact HO606.out) hb)
           have n1_ := Aside0.mk (Kd.R_below (by (with_reducible repeat (first | apply Kd.R_alloc | apply Kd.R_drewN | apply Kd.R_drew)); exact HO609.out) hb)
           have n2_ := Aside0.mk (Kd.R_below (by (with_reducible repeat (first | apply Kd.R_alloc | apply Kd.R_drewN | apply Kd.R_drew)); exact HO613.out) hb)
           have n3_ := Aside0.mk (Kd.R_below (by (with_reducible repeat (first | apply Kd.R_alloc | apply Kd.R_drewN | apply Kd.R_drew)); exact HO633.out) hb)
           have n4_ := Aside0.mk (Kd.C_below (by repeat (first | (with_reducible exact HR623.out) | (with_reducible refine Kd.C_alloc ?_ _) | (with_reducible refine Kd.C_drewN ?_ _) | (with_reducible refine Kd.C_drew ?_) | exact HR623.out)) hb)
           have n5_ := Aside0.mk (Kd.C_below (by repeat (first | (with_reducible exact HR630.out) | (with_reducible refine Kd.C_alloc ?_ _) | (with_reducible refine Kd.C_drewN ?_ _) | (with_reducible refine Kd.C_drew ?_) | exact HR630.out)) hb)
           have n6_ := Aside0.mk (below_step (by repeat (first | (with_reducible first | exact HB.out | apply below_alloc | apply pw_below_drewN | apply below_drew1) | exact HB.out)) hb)
           clear HO606
           clear HO609
           clear HO613
           clear HO633
           clear HR623
           clear HR630
           clear HB
           have HO606 := n0_
           have HO609 := n1_
           have HO613 := n2_
           have HO633 := n3_
           have HR623 := n4_
           have HR630 := n5_
           have HB := n6_
           clear n0_ n1_ n2_ n3_ n4_ n5_ n6_
           (try clear hb)
           (try clear hb2)
           (try clear hk)
           (try clear hi)
           refine hK.out _ _ trivial (fun hHeld => ?_)
           clear hK K
           refine norm_ (a' := ?_) ?_ ?_
           rotate_left
           ·show Act.put _ (some 61) _ = _
            simp only [Act.put, List.setIfInBounds_toArray, List.set_cons_zero, List.set_cons_succ, i64_w, i32_w]
            rfl
           refine pure_ (i := 13) (N := some 48) (v := ?_) (a' := ?_) #[true, true, true, true, true, true, true, true, true, true, true, true, true, true, false, false, false, false] rfl rfl (any_of HT_.out (by kernel_rfl)) (fun _ _ _ h => h) (Or.inl ⟨by rfl, ?_⟩) ?_ ?_
           rotate_left
           ·intro w'
            go_simp
            with_reducible rfl
           rotate_left
           ·simp only [Act.put, List.setIfInBounds_toArray, List.set_cons_zero, List.set_cons_succ, i64_w, i32_w]
            rfl
           refine pure_ (i := 14) (N := some 62) (v := ?_) (a' := ?_) #[true, true, true, true, true, true, true, true, true, true, true, true, true, true, true, false, false, false] rfl rfl (any_of HT_.out (by kernel_rfl)) (fun _ _ _ h => h) (Or.inl ⟨by rfl, ?_⟩) ?_ ?_
           rotate_left
           ·intro w'
            go_simp
            with_reducible rfl
           rotate_left
           ·simp only [Act.put, List.setIfInBounds_toArray, List.set_cons_zero, List.set_cons_succ, i64_w, i32_w]
            rfl
           refine pure_ (i := 15) (N := some 63) (v := ?_) (a' := ?_) #[true, true, true, true, true, true, true, true, true, true, true, true, true, true, true, true, false, false] rfl rfl (any_of HT_.out (by kernel_rfl)) (fun _ _ _ h => h) (Or.inl ⟨by rfl, ?_⟩) ?_ ?_
           rotate_left
           ·intro w'
            go_simp
            with_reducible rfl
           rotate_left
           ·simp only [Act.put, List.setIfInBounds_toArray, List.set_cons_zero, List.set_cons_succ, i64_w, i32_w]
            rfl
           refine pure_ (i := 16) (N := some 16) (v := ?_) (a' := ?_) #[true, true, true, true, true, true, true, true, true, true, true, true, true, true, true, true, true, false] rfl rfl (any_of HT_.out (by kernel_rfl)) (fun _ _ _ h => h) (Or.inl ⟨by rfl, ?_⟩) ?_ ?_
           rotate_left
           ·intro w'
            go_simp
            with_reducible rfl
           rotate_left
           ·simp only [Act.put, List.setIfInBounds_toArray, List.set_cons_zero, List.set_cons_succ, i64_w, i32_w]
            rfl
           refine pure_ (i := 17) (N := some 17) (v := ?_) (a' := ?_) #[true, true, true, true, true, true, true, true, true, true, true, true, true, true, true, true, true, true] rfl rfl (any_of HT_.out (by kernel_rfl)) (fun _ _ _ h => h) (Or.inl ⟨by rfl, ?_⟩) ?_ ?_
           rotate_left
           ·intro w'
            go_simp
            with_reducible rfl
           rotate_left
           ·simp only [Act.put, List.setIfInBounds_toArray, List.set_cons_zero, List.set_cons_succ, i64_w, i32_w]
            rfl
           refine done_ (done_of HT_.out (by kernel_rfl)) ?_
           by_cases c28 : t634 ≥ (ji15)
           ·rw [if_pos c28] at H
            have c28b0 : decide ((ji15) ≤ t634) = true := decide_eq_true c28
            clear c28
            by_cases c29 : t635 = true
            ·subst c29
             have H1 : ((prebendlaw17_awake.f k).bind fun t636 => (if t636 = true then (if (t616 == true) = true then (if t615 = (wrap64 (t634 + 1)) then (if t616 = true then (some (t615 != (ji15))) else (some true)) else (some false)) else (some false)) else (some false))) = some r := by rw [if_pos rfl] at H; exact H
             clear H
             have H := H1
             clear H1
             replace H := Option.bind_eq_some_iff.mp H
             obtain ⟨t636, A300, H⟩ := H
             replace H : (if t636 = true then (if (t616 == true) = true then (if t615 = (wrap64 (t634 + 1)) then (if t616 = true then (some (t615 != (ji15))) else (some true)) else (some false)) else (some false)) else (some false)) = some r := H
             have A30 := Aside0.mk A300
             clear A300
             by_cases c31 : t636 = true
             ·subst c31
              have H1 : (if (t616 == true) = true then (if t615 = (wrap64 (t634 + 1)) then (if t616 = true then (some (t615 != (ji15))) else (some true)) else (some false)) else (some false)) = some r := by rw [if_pos rfl] at H; exact H
              clear H
              have H := H1
              clear H1
              by_cases c32 : (t616 == true) = true
              ·rw [if_pos c32] at H
               have c32b0 : (t616 == true) = true := c32
               (try (have c32b1 : decide (t616 = true) = true := by simpa using c32))
               (try (have c32b2 : (t616 == true) = true := by simpa using c32))
               clear c32
               by_cases c33 : t615 = (wrap64 (t634 + 1))
               ·rw [if_pos c33] at H
                have c33b0 : (t615 == (wrap64 (t634 + 1))) = true := beq_iff_eq.mpr c33
                have c33b1 : (t615 != (wrap64 (t634 + 1))) = false := bne_eq_false_iff_eq.mpr c33
                clear c33
                by_cases c34 : t616 = true
                ·subst c34
                 have H1 : (some (t615 != (ji15))) = some r := by rw [if_pos rfl] at H; exact H
                 clear H
                 have H := H1
                 clear H1
                 obtain rfl := Option.some.inj H
                 try go_wp2_with (first | ((with_reducible refine gate_callee (f := 31) rfl ?_); refine goesL_ (some 72) rfl rfl Try.func31 (by kernel_rfl) rfl #[] rfl (by (try simp only [List.map_toArray, List.map_cons, List.map_nil]); first | done | rfl | (simp only [List.length_drop, List.length_take]; rfl)) ?_; (with_reducible refine (prebendlaw17_awake.calls k  true _ A30.out).mono ?_); rintro e w53 ⟨rfl, hb⟩; refine ⟨_, rfl, ?_⟩; have n0_ := Aside0.mk (Kd.R_below (by (with_reducible repeat (first | apply Kd.R_alloc | apply Kd.R_drewN | apply Kd.R_drew)); exact HO606.out) hb); have n1_ := Aside0.mk (Kd.R_below (by (with_reducible repeat (first | apply Kd.R_alloc | apply Kd.R_drewN | apply Kd.R_drew)); exact HO609.out) hb); have n2_ := Aside0.mk (Kd.R_below (by (with_reducible repeat (first | apply Kd.R_alloc | apply Kd.R_drewN | apply Kd.R_drew)); exact HO613.out) hb); have n3_ := Aside0.mk (Kd.R_below (by (with_reducible repeat (first | apply Kd.R_alloc | apply Kd.R_drewN | apply Kd.R_drew)); exact HO633.out) hb); have n4_ := Aside0.mk (Kd.C_below (by repeat (first | (with_reducible exact HR623.out) | (with_reducible refine Kd.C_alloc ?_ _) | (with_reducible refine Kd.C_drewN ?_ _) | (with_reducible refine Kd.C_drew ?_) | exact HR623.out)) hb); have n5_ := Aside0.mk (Kd.C_below (by repeat (first | (with_reducible exact HR630.out) | (with_reducible refine Kd.C_alloc ?_ _) | (with_reducible refine Kd.C_drewN ?_ _) | (with_reducible refine Kd.C_drew ?_) | exact HR630.out)) hb); have n6_ := Aside0.mk (below_step (by repeat (first | (with_reducible first | exact HB.out | apply below_alloc | apply pw_below_drewN | apply below_drew1) | exact HB.out)) hb); clear HO606; clear HO609; clear HO613; clear HO633; clear HR623; clear HR630; clear HB; have HO606 := n0_; have HO609 := n1_; have HO613 := n2_; have HO633 := n3_; have HR623 := n4_; have HR630 := n5_; have HB := n6_; clear n0_ n1_ n2_ n3_ n4_ n5_ n6_; (try clear hb); (try clear hb2); (try clear hk); (try clear hi)))
                 go_ret
                 exact ⟨by first | rfl | (simp [errW_none, errW_some] <;> rfl) | (simp only [← hji15, ← hji23]; first | rfl | (simp [errW_none, errW_some] <;> rfl)) | (simp [*, errW_none, errW_some] <;> rfl), by repeat (first | (with_reducible first | exact HB.out | apply below_alloc | apply pw_below_drewN | apply below_drew1) | exact HB.out)⟩
                ·replace c34 := Bool.eq_false_iff.mpr c34
                 subst c34
                 have H1 : (some true) = some r := by rw [if_neg (show ¬ (false = true) by decide)] at H; exact H
                 clear H
                 have H := H1
                 clear H1
                 obtain rfl := Option.some.inj H
                 try go_wp2_with (first | ((with_reducible refine gate_callee (f := 31) rfl ?_); refine goesL_ (some 72) rfl rfl Try.func31 (by kernel_rfl) rfl #[] rfl (by (try simp only [List.map_toArray, List.map_cons, List.map_nil]); first | done | rfl | (simp only [List.length_drop, List.length_take]; rfl)) ?_; (with_reducible refine (prebendlaw17_awake.calls k  true _ A30.out).mono ?_); rintro e w72 ⟨rfl, hb⟩; refine ⟨_, rfl, ?_⟩; have n0_ := Aside0.mk (Kd.R_below (by (with_reducible repeat (first | apply Kd.R_alloc | apply Kd.R_drewN | apply Kd.R_drew)); exact HO606.out) hb); have n1_ := Aside0.mk (Kd.R_below (by (with_reducible repeat (first | apply Kd.R_alloc | apply Kd.R_drewN | apply Kd.R_drew)); exact HO609.out) hb); have n2_ := Aside0.mk (Kd.R_below (by (with_reducible repeat (first | apply Kd.R_alloc | apply Kd.R_drewN | apply Kd.R_drew)); exact HO613.out) hb); have n3_ := Aside0.mk (Kd.R_below (by (with_reducible repeat (first | apply Kd.R_alloc | apply Kd.R_drewN | apply Kd.R_drew)); exact HO633.out) hb); have n4_ := Aside0.mk (Kd.C_below (by repeat (first | (with_reducible exact HR623.out) | (with_reducible refine Kd.C_alloc ?_ _) | (with_reducible refine Kd.C_drewN ?_ _) | (with_reducible refine Kd.C_drew ?_) | exact HR623.out)) hb); have n5_ := Aside0.mk (Kd.C_below (by repeat (first | (with_reducible exact HR630.out) | (with_reducible refine Kd.C_alloc ?_ _) | (with_reducible refine Kd.C_drewN ?_ _) | (with_reducible refine Kd.C_drew ?_) | exact HR630.out)) hb); have n6_ := Aside0.mk (below_step (by repeat (first | (with_reducible first | exact HB.out | apply below_alloc | apply pw_below_drewN | apply below_drew1) | exact HB.out)) hb); clear HO606; clear HO609; clear HO613; clear HO633; clear HR623; clear HR630; clear HB; have HO606 := n0_; have HO609 := n1_; have HO613 := n2_; have HO633 := n3_; have HR623 := n4_; have HR630 := n5_; have HB := n6_; clear n0_ n1_ n2_ n3_ n4_ n5_ n6_; (try clear hb); (try clear hb2); (try clear hk); (try clear hi)))
                 go_ret
                 exact ⟨by first | rfl | (simp [errW_none, errW_some] <;> rfl) | (simp only [← hji15, ← hji23]; first | rfl | (simp [errW_none, errW_some] <;> rfl)) | (simp [*, errW_none, errW_some] <;> rfl), by repeat (first | (with_reducible first | exact HB.out | apply below_alloc | apply pw_below_drewN | apply below_drew1) | exact HB.out)⟩
               ·rw [if_neg c33] at H
                have c33b0 : (t615 == (wrap64 (t634 + 1))) = false := beq_eq_false_iff_ne.mpr c33
                have c33b1 : (t615 != (wrap64 (t634 + 1))) = true := bne_iff_ne.mpr c33
                obtain rfl := Option.some.inj H
                try go_wp2_with (first | ((with_reducible refine gate_callee (f := 31) rfl ?_); refine goesL_ (some 72) rfl rfl Try.func31 (by kernel_rfl) rfl #[] rfl (by (try simp only [List.map_toArray, List.map_cons, List.map_nil]); first | done | rfl | (simp only [List.length_drop, List.length_take]; rfl)) ?_; (with_reducible refine (prebendlaw17_awake.calls k  true _ A30.out).mono ?_); rintro e w91 ⟨rfl, hb⟩; refine ⟨_, rfl, ?_⟩; have n0_ := Aside0.mk (Kd.R_below (by (with_reducible repeat (first | apply Kd.R_alloc | apply Kd.R_drewN | apply Kd.R_drew)); exact HO606.out) hb); have n1_ := Aside0.mk (Kd.R_below (by (with_reducible repeat (first | apply Kd.R_alloc | apply Kd.R_drewN | apply Kd.R_drew)); exact HO609.out) hb); have n2_ := Aside0.mk (Kd.R_below (by (with_reducible repeat (first | apply Kd.R_alloc | apply Kd.R_drewN | apply Kd.R_drew)); exact HO613.out) hb); have n3_ := Aside0.mk (Kd.R_below (by (with_reducible repeat (first | apply Kd.R_alloc | apply Kd.R_drewN | apply Kd.R_drew)); exact HO633.out) hb); have n4_ := Aside0.mk (Kd.C_below (by repeat (first | (with_reducible exact HR623.out) | (with_reducible refine Kd.C_alloc ?_ _) | (with_reducible refine Kd.C_drewN ?_ _) | (with_reducible refine Kd.C_drew ?_) | exact HR623.out)) hb); have n5_ := Aside0.mk (Kd.C_below (by repeat (first | (with_reducible exact HR630.out) | (with_reducible refine Kd.C_alloc ?_ _) | (with_reducible refine Kd.C_drewN ?_ _) | (with_reducible refine Kd.C_drew ?_) | exact HR630.out)) hb); have n6_ := Aside0.mk (below_step (by repeat (first | (with_reducible first | exact HB.out | apply below_alloc | apply pw_below_drewN | apply below_drew1) | exact HB.out)) hb); clear HO606; clear HO609; clear HO613; clear HO633; clear HR623; clear HR630; clear HB; have HO606 := n0_; have HO609 := n1_; have HO613 := n2_; have HO633 := n3_; have HR623 := n4_; have HR630 := n5_; have HB := n6_; clear n0_ n1_ n2_ n3_ n4_ n5_ n6_; (try clear hb); (try clear hb2); (try clear hk); (try clear hi)))
                go_ret
                exact ⟨by first | rfl | (simp [errW_none, errW_some] <;> rfl) | (simp only [← hji15, ← hji23]; first | rfl | (simp [errW_none, errW_some] <;> rfl)) | (simp [*, errW_none, errW_some] <;> rfl), by repeat (first | (with_reducible first | exact HB.out | apply below_alloc | apply pw_below_drewN | apply below_drew1) | exact HB.out)⟩
              ·rw [if_neg c32] at H
               have c32b0 : (t616 == true) = false := by simpa using c32
               (try (have c32b1 : decide (t616 = true) = false := by simpa using c32))
               (try (have c32b2 : (t616 == true) = false := by simpa using c32))
               (try (have c32b3 : ¬ (t616 = true) := by simpa using c32))
               clear c32
               obtain rfl := Option.some.inj H
               try go_wp2_with (first | ((with_reducible refine gate_callee (f := 31) rfl ?_); refine goesL_ (some 72) rfl rfl Try.func31 (by kernel_rfl) rfl #[] rfl (by (try simp only [List.map_toArray, List.map_cons, List.map_nil]); first | done | rfl | (simp only [List.length_drop, List.length_take]; rfl)) ?_; (with_reducible refine (prebendlaw17_awake.calls k  true _ A30.out).mono ?_); rintro e w110 ⟨rfl, hb⟩; refine ⟨_, rfl, ?_⟩; have n0_ := Aside0.mk (Kd.R_below (by (with_reducible repeat (first | apply Kd.R_alloc | apply Kd.R_drewN | apply Kd.R_drew)); exact HO606.out) hb); have n1_ := Aside0.mk (Kd.R_below (by (with_reducible repeat (first | apply Kd.R_alloc | apply Kd.R_drewN | apply Kd.R_drew)); exact HO609.out) hb); have n2_ := Aside0.mk (Kd.R_below (by (with_reducible repeat (first | apply Kd.R_alloc | apply Kd.R_drewN | apply Kd.R_drew)); exact HO613.out) hb); have n3_ := Aside0.mk (Kd.R_below (by (with_reducible repeat (first | apply Kd.R_alloc | apply Kd.R_drewN | apply Kd.R_drew)); exact HO633.out) hb); have n4_ := Aside0.mk (Kd.C_below (by repeat (first | (with_reducible exact HR623.out) | (with_reducible refine Kd.C_alloc ?_ _) | (with_reducible refine Kd.C_drewN ?_ _) | (with_reducible refine Kd.C_drew ?_) | exact HR623.out)) hb); have n5_ := Aside0.mk (Kd.C_below (by repeat (first | (with_reducible exact HR630.out) | (with_reducible refine Kd.C_alloc ?_ _) | (with_reducible refine Kd.C_drewN ?_ _) | (with_reducible refine Kd.C_drew ?_) | exact HR630.out)) hb); have n6_ := Aside0.mk (below_step (by repeat (first | (with_reducible first | exact HB.out | apply below_alloc | apply pw_below_drewN | apply below_drew1) | exact HB.out)) hb); clear HO606; clear HO609; clear HO613; clear HO633; clear HR623; clear HR630; clear HB; have HO606 := n0_; have HO609 := n1_; have HO613 := n2_; have HO633 := n3_; have HR623 := n4_; have HR630 := n5_; have HB := n6_; clear n0_ n1_ n2_ n3_ n4_ n5_ n6_; (try clear hb); (try clear hb2); (try clear hk); (try clear hi)))
               go_ret
               exact ⟨by first | rfl | (simp [errW_none, errW_some] <;> rfl) | (simp only [← hji15, ← hji23]; first | rfl | (simp [errW_none, errW_some] <;> rfl)) | (simp [*, errW_none, errW_some] <;> rfl), by repeat (first | (with_reducible first | exact HB.out | apply below_alloc | apply pw_below_drewN | apply below_drew1) | exact HB.out)⟩
             ·replace c31 := Bool.eq_false_iff.mpr c31
              subst c31
              have H1 : (some false) = some r := by rw [if_neg (show ¬ (false = true) by decide)] at H; exact H
              clear H
              have H := H1
              clear H1
              obtain rfl := Option.some.inj H
              try go_wp2_with (first | ((with_reducible refine gate_callee (f := 31) rfl ?_); refine goesL_ (some 72) rfl rfl Try.func31 (by kernel_rfl) rfl #[] rfl (by (try simp only [List.map_toArray, List.map_cons, List.map_nil]); first | done | rfl | (simp only [List.length_drop, List.length_take]; rfl)) ?_; (with_reducible refine (prebendlaw17_awake.calls k  false _ A30.out).mono ?_); rintro e w129 ⟨rfl, hb⟩; refine ⟨_, rfl, ?_⟩; have n0_ := Aside0.mk (Kd.R_below (by (with_reducible repeat (first | apply Kd.R_alloc | apply Kd.R_drewN | apply Kd.R_drew)); exact HO606.out) hb); have n1_ := Aside0.mk (Kd.R_below (by (with_reducible repeat (first | apply Kd.R_alloc | apply Kd.R_drewN | apply Kd.R_drew)); exact HO609.out) hb); have n2_ := Aside0.mk (Kd.R_below (by (with_reducible repeat (first | apply Kd.R_alloc | apply Kd.R_drewN | apply Kd.R_drew)); exact HO613.out) hb); have n3_ := Aside0.mk (Kd.R_below (by (with_reducible repeat (first | apply Kd.R_alloc | apply Kd.R_drewN | apply Kd.R_drew)); exact HO633.out) hb); have n4_ := Aside0.mk (Kd.C_below (by repeat (first | (with_reducible exact HR623.out) | (with_reducible refine Kd.C_alloc ?_ _) | (with_reducible refine Kd.C_drewN ?_ _) | (with_reducible refine Kd.C_drew ?_) | exact HR623.out)) hb); have n5_ := Aside0.mk (Kd.C_below (by repeat (first | (with_reducible exact HR630.out) | (with_reducible refine Kd.C_alloc ?_ _) | (with_reducible refine Kd.C_drewN ?_ _) | (with_reducible refine Kd.C_drew ?_) | exact HR630.out)) hb); have n6_ := Aside0.mk (below_step (by repeat (first | (with_reducible first | exact HB.out | apply below_alloc | apply pw_below_drewN | apply below_drew1) | exact HB.out)) hb); clear HO606; clear HO609; clear HO613; clear HO633; clear HR623; clear HR630; clear HB; have HO606 := n0_; have HO609 := n1_; have HO613 := n2_; have HO633 := n3_; have HR623 := n4_; have HR630 := n5_; have HB := n6_; clear n0_ n1_ n2_ n3_ n4_ n5_ n6_; (try clear hb); (try clear hb2); (try clear hk); (try clear hi)))
              go_ret
              exact ⟨by first | rfl | (simp [errW_none, errW_some] <;> rfl) | (simp only [← hji15, ← hji23]; first | rfl | (simp [errW_none, errW_some] <;> rfl)) | (simp [*, errW_none, errW_some] <;> rfl), by repeat (first | (with_reducible first | exact HB.out | apply below_alloc | apply pw_below_drewN | apply below_drew1) | exact HB.out)⟩
            ·replace c29 := Bool.eq_false_iff.mpr c29
             subst c29
             have H1 : ((prebendlaw17_awake.f k).bind fun t637 => (if t637 = true then (if (t616 == false) = true then (if t615 = t634 then (if t616 = true then (some (t615 != (ji15))) else (some true)) else (some false)) else (some false)) else (some false))) = some r := by rw [if_neg (show ¬ (false = true) by decide)] at H; exact H
             clear H
             have H := H1
             clear H1
             replace H := Option.bind_eq_some_iff.mp H
             obtain ⟨t637, A1300, H⟩ := H
             replace H : (if t637 = true then (if (t616 == false) = true then (if t615 = t634 then (if t616 = true then (some (t615 != (ji15))) else (some true)) else (some false)) else (some false)) else (some false)) = some r := H
             have A130 := Aside0.mk A1300
             clear A1300
             by_cases c131 : t637 = true
             ·subst c131
              have H1 : (if (t616 == false) = true then (if t615 = t634 then (if t616 = true then (some (t615 != (ji15))) else (some true)) else (some false)) else (some false)) = some r := by rw [if_pos rfl] at H; exact H
              clear H
              have H := H1
              clear H1
              by_cases c132 : (t616 == false) = true
              ·rw [if_pos c132] at H
               have c132b0 : (t616 == false) = true := c132
               (try (have c132b1 : decide (t616 = false) = true := by simpa using c132))
               (try (have c132b2 : (t616 == false) = true := by simpa using c132))
               clear c132
               by_cases c133 : t615 = t634
               ·rw [if_pos c133] at H
                have c133b0 : (t615 == t634) = true := beq_iff_eq.mpr c133
                have c133b1 : (t615 != t634) = false := bne_eq_false_iff_eq.mpr c133
                clear c133
                by_cases c134 : t616 = true
                ·subst c134
                 have H1 : (some (t615 != (ji15))) = some r := by rw [if_pos rfl] at H; exact H
                 clear H
                 have H := H1
                 clear H1
                 obtain rfl := Option.some.inj H
                 try go_wp2_with (first | ((with_reducible refine gate_callee (f := 31) rfl ?_); refine goesL_ (some 72) rfl rfl Try.func31 (by kernel_rfl) rfl #[] rfl (by (try simp only [List.map_toArray, List.map_cons, List.map_nil]); first | done | rfl | (simp only [List.length_drop, List.length_take]; rfl)) ?_; (with_reducible refine (prebendlaw17_awake.calls k  true _ A130.out).mono ?_); rintro e w153 ⟨rfl, hb⟩; refine ⟨_, rfl, ?_⟩; have n0_ := Aside0.mk (Kd.R_below (by (with_reducible repeat (first | apply Kd.R_alloc | apply Kd.R_drewN | apply Kd.R_drew)); exact HO606.out) hb); have n1_ := Aside0.mk (Kd.R_below (by (with_reducible repeat (first | apply Kd.R_alloc | apply Kd.R_drewN | apply Kd.R_drew)); exact HO609.out) hb); have n2_ := Aside0.mk (Kd.R_below (by (with_reducible repeat (first | apply Kd.R_alloc | apply Kd.R_drewN | apply Kd.R_drew)); exact HO613.out) hb); have n3_ := Aside0.mk (Kd.R_below (by (with_reducible repeat (first | apply Kd.R_alloc | apply Kd.R_drewN | apply Kd.R_drew)); exact HO633.out) hb); have n4_ := Aside0.mk (Kd.C_below (by repeat (first | (with_reducible exact HR623.out) | (with_reducible refine Kd.C_alloc ?_ _) | (with_reducible refine Kd.C_drewN ?_ _) | (with_reducible refine Kd.C_drew ?_) | exact HR623.out)) hb); have n5_ := Aside0.mk (Kd.C_below (by repeat (first | (with_reducible exact HR630.out) | (with_reducible refine Kd.C_alloc ?_ _) | (with_reducible refine Kd.C_drewN ?_ _) | (with_reducible refine Kd.C_drew ?_) | exact HR630.out)) hb); have n6_ := Aside0.mk (below_step (by repeat (first | (with_reducible first | exact HB.out | apply below_alloc | apply pw_below_drewN | apply below_drew1) | exact HB.out)) hb); clear HO606; clear HO609; clear HO613; clear HO633; clear HR623; clear HR630; clear HB; have HO606 := n0_; have HO609 := n1_; have HO613 := n2_; have HO633 := n3_; have HR623 := n4_; have HR630 := n5_; have HB := n6_; clear n0_ n1_ n2_ n3_ n4_ n5_ n6_; (try clear hb); (try clear hb2); (try clear hk); (try clear hi)))
                 go_ret
                 exact ⟨by first | rfl | (simp [errW_none, errW_some] <;> rfl) | (simp only [← hji15, ← hji23]; first | rfl | (simp [errW_none, errW_some] <;> rfl)) | (simp [*, errW_none, errW_some] <;> rfl), by repeat (first | (with_reducible first | exact HB.out | apply below_alloc | apply pw_below_drewN | apply below_drew1) | exact HB.out)⟩
                ·replace c134 := Bool.eq_false_iff.mpr c134
                 subst c134
                 have H1 : (some true) = some r := by rw [if_neg (show ¬ (false = true) by decide)] at H; exact H
                 clear H
                 have H := H1
                 clear H1
                 obtain rfl := Option.some.inj H
                 try go_wp2_with (first | ((with_reducible refine gate_callee (f := 31) rfl ?_); refine goesL_ (some 72) rfl rfl Try.func31 (by kernel_rfl) rfl #[] rfl (by (try simp only [List.map_toArray, List.map_cons, List.map_nil]); first | done | rfl | (simp only [List.length_drop, List.length_take]; rfl)) ?_; (with_reducible refine (prebendlaw17_awake.calls k  true _ A130.out).mono ?_); rintro e w172 ⟨rfl, hb⟩; refine ⟨_, rfl, ?_⟩; have n0_ := Aside0.mk (Kd.R_below (by (with_reducible repeat (first | apply Kd.R_alloc | apply Kd.R_drewN | apply Kd.R_drew)); exact HO606.out) hb); have n1_ := Aside0.mk (Kd.R_below (by (with_reducible repeat (first | apply Kd.R_alloc | apply Kd.R_drewN | apply Kd.R_drew)); exact HO609.out) hb); have n2_ := Aside0.mk (Kd.R_below (by (with_reducible repeat (first | apply Kd.R_alloc | apply Kd.R_drewN | apply Kd.R_drew)); exact HO613.out) hb); have n3_ := Aside0.mk (Kd.R_below (by (with_reducible repeat (first | apply Kd.R_alloc | apply Kd.R_drewN | apply Kd.R_drew)); exact HO633.out) hb); have n4_ := Aside0.mk (Kd.C_below (by repeat (first | (with_reducible exact HR623.out) | (with_reducible refine Kd.C_alloc ?_ _) | (with_reducible refine Kd.C_drewN ?_ _) | (with_reducible refine Kd.C_drew ?_) | exact HR623.out)) hb); have n5_ := Aside0.mk (Kd.C_below (by repeat (first | (with_reducible exact HR630.out) | (with_reducible refine Kd.C_alloc ?_ _) | (with_reducible refine Kd.C_drewN ?_ _) | (with_reducible refine Kd.C_drew ?_) | exact HR630.out)) hb); have n6_ := Aside0.mk (below_step (by repeat (first | (with_reducible first | exact HB.out | apply below_alloc | apply pw_below_drewN | apply below_drew1) | exact HB.out)) hb); clear HO606; clear HO609; clear HO613; clear HO633; clear HR623; clear HR630; clear HB; have HO606 := n0_; have HO609 := n1_; have HO613 := n2_; have HO633 := n3_; have HR623 := n4_; have HR630 := n5_; have HB := n6_; clear n0_ n1_ n2_ n3_ n4_ n5_ n6_; (try clear hb); (try clear hb2); (try clear hk); (try clear hi)))
                 go_ret
                 exact ⟨by first | rfl | (simp [errW_none, errW_some] <;> rfl) | (simp only [← hji15, ← hji23]; first | rfl | (simp [errW_none, errW_some] <;> rfl)) | (simp [*, errW_none, errW_some] <;> rfl), by repeat (first | (with_reducible first | exact HB.out | apply below_alloc | apply pw_below_drewN | apply below_drew1) | exact HB.out)⟩
               ·rw [if_neg c133] at H
                have c133b0 : (t615 == t634) = false := beq_eq_false_iff_ne.mpr c133
                have c133b1 : (t615 != t634) = true := bne_iff_ne.mpr c133
                obtain rfl := Option.some.inj H
                try go_wp2_with (first | ((with_reducible refine gate_callee (f := 31) rfl ?_); refine goesL_ (some 72) rfl rfl Try.func31 (by kernel_rfl) rfl #[] rfl (by (try simp only [List.map_toArray, List.map_cons, List.map_nil]); first | done | rfl | (simp only [List.length_drop, List.length_take]; rfl)) ?_; (with_reducible refine (prebendlaw17_awake.calls k  true _ A130.out).mono ?_); rintro e w191 ⟨rfl, hb⟩; refine ⟨_, rfl, ?_⟩; have n0_ := Aside0.mk (Kd.R_below (by (with_reducible repeat (first | apply Kd.R_alloc | apply Kd.R_drewN | apply Kd.R_drew)); exact HO606.out) hb); have n1_ := Aside0.mk (Kd.R_below (by (with_reducible repeat (first | apply Kd.R_alloc | apply Kd.R_drewN | apply Kd.R_drew)); exact HO609.out) hb); have n2_ := Aside0.mk (Kd.R_below (by (with_reducible repeat (first | apply Kd.R_alloc | apply Kd.R_drewN | apply Kd.R_drew)); exact HO613.out) hb); have n3_ := Aside0.mk (Kd.R_below (by (with_reducible repeat (first | apply Kd.R_alloc | apply Kd.R_drewN | apply Kd.R_drew)); exact HO633.out) hb); have n4_ := Aside0.mk (Kd.C_below (by repeat (first | (with_reducible exact HR623.out) | (with_reducible refine Kd.C_alloc ?_ _) | (with_reducible refine Kd.C_drewN ?_ _) | (with_reducible refine Kd.C_drew ?_) | exact HR623.out)) hb); have n5_ := Aside0.mk (Kd.C_below (by repeat (first | (with_reducible exact HR630.out) | (with_reducible refine Kd.C_alloc ?_ _) | (with_reducible refine Kd.C_drewN ?_ _) | (with_reducible refine Kd.C_drew ?_) | exact HR630.out)) hb); have n6_ := Aside0.mk (below_step (by repeat (first | (with_reducible first | exact HB.out | apply below_alloc | apply pw_below_drewN | apply below_drew1) | exact HB.out)) hb); clear HO606; clear HO609; clear HO613; clear HO633; clear HR623; clear HR630; clear HB; have HO606 := n0_; have HO609 := n1_; have HO613 := n2_; have HO633 := n3_; have HR623 := n4_; have HR630 := n5_; have HB := n6_; clear n0_ n1_ n2_ n3_ n4_ n5_ n6_; (try clear hb); (try clear hb2); (try clear hk); (try clear hi)))
                go_ret
                exact ⟨by first | rfl | (simp [errW_none, errW_some] <;> rfl) | (simp only [← hji15, ← hji23]; first | rfl | (simp [errW_none, errW_some] <;> rfl)) | (simp [*, errW_none, errW_some] <;> rfl), by repeat (first | (with_reducible first | exact HB.out | apply below_alloc | apply pw_below_drewN | apply below_drew1) | exact HB.out)⟩
              ·rw [if_neg c132] at H
               have c132b0 : (t616 == false) = false := by simpa using c132
               (try (have c132b1 : decide (t616 = false) = false := by simpa using c132))
               (try (have c132b2 : (t616 == false) = false := by simpa using c132))
               (try (have c132b3 : ¬ (t616 = false) := by simpa using c132))
               clear c132
               obtain rfl := Option.some.inj H
               try go_wp2_with (first | ((with_reducible refine gate_callee (f := 31) rfl ?_); refine goesL_ (some 72) rfl rfl Try.func31 (by kernel_rfl) rfl #[] rfl (by (try simp only [List.map_toArray, List.map_cons, List.map_nil]); first | done | rfl | (simp only [List.length_drop, List.length_take]; rfl)) ?_; (with_reducible refine (prebendlaw17_awake.calls k  true _ A130.out).mono ?_); rintro e w210 ⟨rfl, hb⟩; refine ⟨_, rfl, ?_⟩; have n0_ := Aside0.mk (Kd.R_below (by (with_reducible repeat (first | apply Kd.R_alloc | apply Kd.R_drewN | apply Kd.R_drew)); exact HO606.out) hb); have n1_ := Aside0.mk (Kd.R_below (by (with_reducible repeat (first | apply Kd.R_alloc | apply Kd.R_drewN | apply Kd.R_drew)); exact HO609.out) hb); have n2_ := Aside0.mk (Kd.R_below (by (with_reducible repeat (first | apply Kd.R_alloc | apply Kd.R_drewN | apply Kd.R_drew)); exact HO613.out) hb); have n3_ := Aside0.mk (Kd.R_below (by (with_reducible repeat (first | apply Kd.R_alloc | apply Kd.R_drewN | apply Kd.R_drew)); exact HO633.out) hb); have n4_ := Aside0.mk (Kd.C_below (by repeat (first | (with_reducible exact HR623.out) | (with_reducible refine Kd.C_alloc ?_ _) | (with_reducible refine Kd.C_drewN ?_ _) | (with_reducible refine Kd.C_drew ?_) | exact HR623.out)) hb); have n5_ := Aside0.mk (Kd.C_below (by repeat (first | (with_reducible exact HR630.out) | (with_reducible refine Kd.C_alloc ?_ _) | (with_reducible refine Kd.C_drewN ?_ _) | (with_reducible refine Kd.C_drew ?_) | exact HR630.out)) hb); have n6_ := Aside0.mk (below_step (by repeat (first | (with_reducible first | exact HB.out | apply below_alloc | apply pw_below_drewN | apply below_drew1) | exact HB.out)) hb); clear HO606; clear HO609; clear HO613; clear HO633; clear HR623; clear HR630; clear HB; have HO606 := n0_; have HO609 := n1_; have HO613 := n2_; have HO633 := n3_; have HR623 := n4_; have HR630 := n5_; have HB := n6_; clear n0_ n1_ n2_ n3_ n4_ n5_ n6_; (try clear hb); (try clear hb2); (try clear hk); (try clear hi)))
               go_ret
               exact ⟨by first | rfl | (simp [errW_none, errW_some] <;> rfl) | (simp only [← hji15, ← hji23]; first | rfl | (simp [errW_none, errW_some] <;> rfl)) | (simp [*, errW_none, errW_some] <;> rfl), by repeat (first | (with_reducible first | exact HB.out | apply below_alloc | apply pw_below_drewN | apply below_drew1) | exact HB.out)⟩
             ·replace c131 := Bool.eq_false_iff.mpr c131
              subst c131
              have H1 : (some false) = some r := by rw [if_neg (show ¬ (false = true) by decide)] at H; exact H
              clear H
              have H := H1
              clear H1
              obtain rfl := Option.some.inj H
              try go_wp2_with (first | ((with_reducible refine gate_callee (f := 31) rfl ?_); refine goesL_ (some 72) rfl rfl Try.func31 (by kernel_rfl) rfl #[] rfl (by (try simp only [List.map_toArray, List.map_cons, List.map_nil]); first | done | rfl | (simp only [List.length_drop, List.length_take]; rfl)) ?_; (with_reducible refine (prebendlaw17_awake.calls k  false _ A130.out).mono ?_); rintro e w229 ⟨rfl, hb⟩; refine ⟨_, rfl, ?_⟩; have n0_ := Aside0.mk (Kd.R_below (by (with_reducible repeat (first | apply Kd.R_alloc | apply Kd.R_drewN | apply Kd.R_drew)); exact HO606.out) hb); have n1_ := Aside0.mk (Kd.R_below (by (with_reducible repeat (first | apply Kd.R_alloc | apply Kd.R_drewN | apply Kd.R_drew)); exact HO609.out) hb); have n2_ := Aside0.mk (Kd.R_below (by (with_reducible repeat (first | apply Kd.R_alloc | apply Kd.R_drewN | apply Kd.R_drew)); exact HO613.out) hb); have n3_ := Aside0.mk (Kd.R_below (by (with_reducible repeat (first | apply Kd.R_alloc | apply Kd.R_drewN | apply Kd.R_drew)); exact HO633.out) hb); have n4_ := Aside0.mk (Kd.C_below (by repeat (first | (with_reducible exact HR623.out) | (with_reducible refine Kd.C_alloc ?_ _) | (with_reducible refine Kd.C_drewN ?_ _) | (with_reducible refine Kd.C_drew ?_) | exact HR623.out)) hb); have n5_ := Aside0.mk (Kd.C_below (by repeat (first | (with_reducible exact HR630.out) | (with_reducible refine Kd.C_alloc ?_ _) | (with_reducible refine Kd.C_drewN ?_ _) | (with_reducible refine Kd.C_drew ?_) | exact HR630.out)) hb); have n6_ := Aside0.mk (below_step (by repeat (first | (with_reducible first | exact HB.out | apply below_alloc | apply pw_below_drewN | apply below_drew1) | exact HB.out)) hb); clear HO606; clear HO609; clear HO613; clear HO633; clear HR623; clear HR630; clear HB; have HO606 := n0_; have HO609 := n1_; have HO613 := n2_; have HO633 := n3_; have HR623 := n4_; have HR630 := n5_; have HB := n6_; clear n0_ n1_ n2_ n3_ n4_ n5_ n6_; (try clear hb); (try clear hb2); (try clear hk); (try clear hi)))
              go_ret
              exact ⟨by first | rfl | (simp [errW_none, errW_some] <;> rfl) | (simp only [← hji15, ← hji23]; first | rfl | (simp [errW_none, errW_some] <;> rfl)) | (simp [*, errW_none, errW_some] <;> rfl), by repeat (first | (with_reducible first | exact HB.out | apply below_alloc | apply pw_below_drewN | apply below_drew1) | exact HB.out)⟩
           ·rw [if_neg c28] at H
            have c28b0 : decide ((ji15) ≤ t634) = false := decide_eq_false c28
            clear c28
            replace H := Option.bind_eq_some_iff.mp H
            obtain ⟨t638, A2300, H⟩ := H
            replace H : (if t638 = true then (if (t616 == t635) = true then (if t615 = t634 then (if t616 = true then (some (t615 != (ji15))) else (some true)) else (some false)) else (some false)) else (some false)) = some r := H
            have A230 := Aside0.mk A2300
            clear A2300
            by_cases c231 : t638 = true
            ·subst c231
             have H1 : (if (t616 == t635) = true then (if t615 = t634 then (if t616 = true then (some (t615 != (ji15))) else (some true)) else (some false)) else (some false)) = some r := by rw [if_pos rfl] at H; exact H
             clear H
             have H := H1
             clear H1
             by_cases c232 : (t616 == t635) = true
             ·rw [if_pos c232] at H
              have c232b0 : (t616 == t635) = true := c232
              (try (have c232b1 : decide (t616 = t635) = true := by simpa using c232))
              (try (have c232b2 : (t616 == t635) = true := by simpa using c232))
              clear c232
              by_cases c233 : t615 = t634
              ·rw [if_pos c233] at H
               have c233b0 : (t615 == t634) = true := beq_iff_eq.mpr c233
               have c233b1 : (t615 != t634) = false := bne_eq_false_iff_eq.mpr c233
               clear c233
               by_cases c234 : t616 = true
               ·subst c234
                have H1 : (some (t615 != (ji15))) = some r := by rw [if_pos rfl] at H; exact H
                clear H
                have H := H1
                clear H1
                obtain rfl := Option.some.inj H
                try go_wp2_with (first | ((with_reducible refine gate_callee (f := 31) rfl ?_); refine goesL_ (some 72) rfl rfl Try.func31 (by kernel_rfl) rfl #[] rfl (by (try simp only [List.map_toArray, List.map_cons, List.map_nil]); first | done | rfl | (simp only [List.length_drop, List.length_take]; rfl)) ?_; (with_reducible refine (prebendlaw17_awake.calls k  true _ A230.out).mono ?_); rintro e w253 ⟨rfl, hb⟩; refine ⟨_, rfl, ?_⟩; have n0_ := Aside0.mk (Kd.R_below (by (with_reducible repeat (first | apply Kd.R_alloc | apply Kd.R_drewN | apply Kd.R_drew)); exact HO606.out) hb); have n1_ := Aside0.mk (Kd.R_below (by (with_reducible repeat (first | apply Kd.R_alloc | apply Kd.R_drewN | apply Kd.R_drew)); exact HO609.out) hb); have n2_ := Aside0.mk (Kd.R_below (by (with_reducible repeat (first | apply Kd.R_alloc | apply Kd.R_drewN | apply Kd.R_drew)); exact HO613.out) hb); have n3_ := Aside0.mk (Kd.R_below (by (with_reducible repeat (first | apply Kd.R_alloc | apply Kd.R_drewN | apply Kd.R_drew)); exact HO633.out) hb); have n4_ := Aside0.mk (Kd.C_below (by repeat (first | (with_reducible exact HR623.out) | (with_reducible refine Kd.C_alloc ?_ _) | (with_reducible refine Kd.C_drewN ?_ _) | (with_reducible refine Kd.C_drew ?_) | exact HR623.out)) hb); have n5_ := Aside0.mk (Kd.C_below (by repeat (first | (with_reducible exact HR630.out) | (with_reducible refine Kd.C_alloc ?_ _) | (with_reducible refine Kd.C_drewN ?_ _) | (with_reducible refine Kd.C_drew ?_) | exact HR630.out)) hb); have n6_ := Aside0.mk (below_step (by repeat (first | (with_reducible first | exact HB.out | apply below_alloc | apply pw_below_drewN | apply below_drew1) | exact HB.out)) hb); clear HO606; clear HO609; clear HO613; clear HO633; clear HR623; clear HR630; clear HB; have HO606 := n0_; have HO609 := n1_; have HO613 := n2_; have HO633 := n3_; have HR623 := n4_; have HR630 := n5_; have HB := n6_; clear n0_ n1_ n2_ n3_ n4_ n5_ n6_; (try clear hb); (try clear hb2); (try clear hk); (try clear hi)))
                go_ret
                exact ⟨by first | rfl | (simp [errW_none, errW_some] <;> rfl) | (simp only [← hji15, ← hji23]; first | rfl | (simp [errW_none, errW_some] <;> rfl)) | (simp [*, errW_none, errW_some] <;> rfl), by repeat (first | (with_reducible first | exact HB.out | apply below_alloc | apply pw_below_drewN | apply below_drew1) | exact HB.out)⟩
               ·replace c234 := Bool.eq_false_iff.mpr c234
                subst c234
                have H1 : (some true) = some r := by rw [if_neg (show ¬ (false = true) by decide)] at H; exact H
                clear H
                have H := H1
                clear H1
                obtain rfl := Option.some.inj H
                try go_wp2_with (first | ((with_reducible refine gate_callee (f := 31) rfl ?_); refine goesL_ (some 72) rfl rfl Try.func31 (by kernel_rfl) rfl #[] rfl (by (try simp only [List.map_toArray, List.map_cons, List.map_nil]); first | done | rfl | (simp only [List.length_drop, List.length_take]; rfl)) ?_; (with_reducible refine (prebendlaw17_awake.calls k  true _ A230.out).mono ?_); rintro e w272 ⟨rfl, hb⟩; refine ⟨_, rfl, ?_⟩; have n0_ := Aside0.mk (Kd.R_below (by (with_reducible repeat (first | apply Kd.R_alloc | apply Kd.R_drewN | apply Kd.R_drew)); exact HO606.out) hb); have n1_ := Aside0.mk (Kd.R_below (by (with_reducible repeat (first | apply Kd.R_alloc | apply Kd.R_drewN | apply Kd.R_drew)); exact HO609.out) hb); have n2_ := Aside0.mk (Kd.R_below (by (with_reducible repeat (first | apply Kd.R_alloc | apply Kd.R_drewN | apply Kd.R_drew)); exact HO613.out) hb); have n3_ := Aside0.mk (Kd.R_below (by (with_reducible repeat (first | apply Kd.R_alloc | apply Kd.R_drewN | apply Kd.R_drew)); exact HO633.out) hb); have n4_ := Aside0.mk (Kd.C_below (by repeat (first | (with_reducible exact HR623.out) | (with_reducible refine Kd.C_alloc ?_ _) | (with_reducible refine Kd.C_drewN ?_ _) | (with_reducible refine Kd.C_drew ?_) | exact HR623.out)) hb); have n5_ := Aside0.mk (Kd.C_below (by repeat (first | (with_reducible exact HR630.out) | (with_reducible refine Kd.C_alloc ?_ _) | (with_reducible refine Kd.C_drewN ?_ _) | (with_reducible refine Kd.C_drew ?_) | exact HR630.out)) hb); have n6_ := Aside0.mk (below_step (by repeat (first | (with_reducible first | exact HB.out | apply below_alloc | apply pw_below_drewN | apply below_drew1) | exact HB.out)) hb); clear HO606; clear HO609; clear HO613; clear HO633; clear HR623; clear HR630; clear HB; have HO606 := n0_; have HO609 := n1_; have HO613 := n2_; have HO633 := n3_; have HR623 := n4_; have HR630 := n5_; have HB := n6_; clear n0_ n1_ n2_ n3_ n4_ n5_ n6_; (try clear hb); (try clear hb2); (try clear hk); (try clear hi)))
                go_ret
                exact ⟨by first | rfl | (simp [errW_none, errW_some] <;> rfl) | (simp only [← hji15, ← hji23]; first | rfl | (simp [errW_none, errW_some] <;> rfl)) | (simp [*, errW_none, errW_some] <;> rfl), by repeat (first | (with_reducible first | exact HB.out | apply below_alloc | apply pw_below_drewN | apply below_drew1) | exact HB.out)⟩
              ·rw [if_neg c233] at H
               have c233b0 : (t615 == t634) = false := beq_eq_false_iff_ne.mpr c233
               have c233b1 : (t615 != t634) = true := bne_iff_ne.mpr c233
               obtain rfl := Option.some.inj H
               try go_wp2_with (first | ((with_reducible refine gate_callee (f := 31) rfl ?_); refine goesL_ (some 72) rfl rfl Try.func31 (by kernel_rfl) rfl #[] rfl (by (try simp only [List.map_toArray, List.map_cons, List.map_nil]); first | done | rfl | (simp only [List.length_drop, List.length_take]; rfl)) ?_; (with_reducible refine (prebendlaw17_awake.calls k  true _ A230.out).mono ?_); rintro e w291 ⟨rfl, hb⟩; refine ⟨_, rfl, ?_⟩; have n0_ := Aside0.mk (Kd.R_below (by (with_reducible repeat (first | apply Kd.R_alloc | apply Kd.R_drewN | apply Kd.R_drew)); exact HO606.out) hb); have n1_ := Aside0.mk (Kd.R_below (by (with_reducible repeat (first | apply Kd.R_alloc | apply Kd.R_drewN | apply Kd.R_drew)); exact HO609.out) hb); have n2_ := Aside0.mk (Kd.R_below (by (with_reducible repeat (first | apply Kd.R_alloc | apply Kd.R_drewN | apply Kd.R_drew)); exact HO613.out) hb); have n3_ := Aside0.mk (Kd.R_below (by (with_reducible repeat (first | apply Kd.R_alloc | apply Kd.R_drewN | apply Kd.R_drew)); exact HO633.out) hb); have n4_ := Aside0.mk (Kd.C_below (by repeat (first | (with_reducible exact HR623.out) | (with_reducible refine Kd.C_alloc ?_ _) | (with_reducible refine Kd.C_drewN ?_ _) | (with_reducible refine Kd.C_drew ?_) | exact HR623.out)) hb); have n5_ := Aside0.mk (Kd.C_below (by repeat (first | (with_reducible exact HR630.out) | (with_reducible refine Kd.C_alloc ?_ _) | (with_reducible refine Kd.C_drewN ?_ _) | (with_reducible refine Kd.C_drew ?_) | exact HR630.out)) hb); have n6_ := Aside0.mk (below_step (by repeat (first | (with_reducible first | exact HB.out | apply below_alloc | apply pw_below_drewN | apply below_drew1) | exact HB.out)) hb); clear HO606; clear HO609; clear HO613; clear HO633; clear HR623; clear HR630; clear HB; have HO606 := n0_; have HO609 := n1_; have HO613 := n2_; have HO633 := n3_; have HR623 := n4_; have HR630 := n5_; have HB := n6_; clear n0_ n1_ n2_ n3_ n4_ n5_ n6_; (try clear hb); (try clear hb2); (try clear hk); (try clear hi)))
               go_ret
               exact ⟨by first | rfl | (simp [errW_none, errW_some] <;> rfl) | (simp only [← hji15, ← hji23]; first | rfl | (simp [errW_none, errW_some] <;> rfl)) | (simp [*, errW_none, errW_some] <;> rfl), by repeat (first | (with_reducible first | exact HB.out | apply below_alloc | apply pw_below_drewN | apply below_drew1) | exact HB.out)⟩
             ·rw [if_neg c232] at H
              have c232b0 : (t616 == t635) = false := by simpa using c232
              (try (have c232b1 : decide (t616 = t635) = false := by simpa using c232))
              (try (have c232b2 : (t616 == t635) = false := by simpa using c232))
              (try (have c232b3 : ¬ (t616 = t635) := by simpa using c232))
              clear c232
              obtain rfl := Option.some.inj H
              try go_wp2_with (first | ((with_reducible refine gate_callee (f := 31) rfl ?_); refine goesL_ (some 72) rfl rfl Try.func31 (by kernel_rfl) rfl #[] rfl (by (try simp only [List.map_toArray, List.map_cons, List.map_nil]); first | done | rfl | (simp only [List.length_drop, List.length_take]; rfl)) ?_; (with_reducible refine (prebendlaw17_awake.calls k  true _ A230.out).mono ?_); rintro e w310 ⟨rfl, hb⟩; refine ⟨_, rfl, ?_⟩; have n0_ := Aside0.mk (Kd.R_below (by (with_reducible repeat (first | apply Kd.R_alloc | apply Kd.R_drewN | apply Kd.R_drew)); exact HO606.out) hb); have n1_ := Aside0.mk (Kd.R_below (by (with_reducible repeat (first | apply Kd.R_alloc | apply Kd.R_drewN | apply Kd.R_drew)); exact HO609.out) hb); have n2_ := Aside0.mk (Kd.R_below (by (with_reducible repeat (first | apply Kd.R_alloc | apply Kd.R_drewN | apply Kd.R_drew)); exact HO613.out) hb); have n3_ := Aside0.mk (Kd.R_below (by (with_reducible repeat (first | apply Kd.R_alloc | apply Kd.R_drewN | apply Kd.R_drew)); exact HO633.out) hb); have n4_ := Aside0.mk (Kd.C_below (by repeat (first | (with_reducible exact HR623.out) | (with_reducible refine Kd.C_alloc ?_ _) | (with_reducible refine Kd.C_drewN ?_ _) | (with_reducible refine Kd.C_drew ?_) | exact HR623.out)) hb); have n5_ := Aside0.mk (Kd.C_below (by repeat (first | (with_reducible exact HR630.out) | (with_reducible refine Kd.C_alloc ?_ _) | (with_reducible refine Kd.C_drewN ?_ _) | (with_reducible refine Kd.C_drew ?_) | exact HR630.out)) hb); have n6_ := Aside0.mk (below_step (by repeat (first | (with_reducible first | exact HB.out | apply below_alloc | apply pw_below_drewN | apply below_drew1) | exact HB.out)) hb); clear HO606; clear HO609; clear HO613; clear HO633; clear HR623; clear HR630; clear HB; have HO606 := n0_; have HO609 := n1_; have HO613 := n2_; have HO633 := n3_; have HR623 := n4_; have HR630 := n5_; have HB := n6_; clear n0_ n1_ n2_ n3_ n4_ n5_ n6_; (try clear hb); (try clear hb2); (try clear hk); (try clear hi)))
              go_ret
              exact ⟨by first | rfl | (simp [errW_none, errW_some] <;> rfl) | (simp only [← hji15, ← hji23]; first | rfl | (simp [errW_none, errW_some] <;> rfl)) | (simp [*, errW_none, errW_some] <;> rfl), by repeat (first | (with_reducible first | exact HB.out | apply below_alloc | apply pw_below_drewN | apply below_drew1) | exact HB.out)⟩
            ·replace c231 := Bool.eq_false_iff.mpr c231
             subst c231
             have H1 : (some false) = some r := by rw [if_neg (show ¬ (false = true) by decide)] at H; exact H
             clear H
             have H := H1
             clear H1
             obtain rfl := Option.some.inj H
             try go_wp2_with (first | ((with_reducible refine gate_callee (f := 31) rfl ?_); refine goesL_ (some 72) rfl rfl Try.func31 (by kernel_rfl) rfl #[] rfl (by (try simp only [List.map_toArray, List.map_cons, List.map_nil]); first | done | rfl | (simp only [List.length_drop, List.length_take]; rfl)) ?_; (with_reducible refine (prebendlaw17_awake.calls k  false _ A230.out).mono ?_); rintro e w329 ⟨rfl, hb⟩; refine ⟨_, rfl, ?_⟩; have n0_ := Aside0.mk (Kd.R_below (by (with_reducible repeat (first | apply Kd.R_alloc | apply Kd.R_drewN | apply Kd.R_drew)); exact HO606.out) hb); have n1_ := Aside0.mk (Kd.R_below (by (with_reducible repeat (first | apply Kd.R_alloc | apply Kd.R_drewN | apply Kd.R_drew)); exact HO609.out) hb); have n2_ := Aside0.mk (Kd.R_below (by (with_reducible repeat (first | apply Kd.R_alloc | apply Kd.R_drewN | apply Kd.R_drew)); exact HO613.out) hb); have n3_ := Aside0.mk (Kd.R_below (by (with_reducible repeat (first | apply Kd.R_alloc | apply Kd.R_drewN | apply Kd.R_drew)); exact HO633.out) hb); have n4_ := Aside0.mk (Kd.C_below (by repeat (first | (with_reducible exact HR623.out) | (with_reducible refine Kd.C_alloc ?_ _) | (with_reducible refine Kd.C_drewN ?_ _) | (with_reducible refine Kd.C_drew ?_) | exact HR623.out)) hb); have n5_ := Aside0.mk (Kd.C_below (by repeat (first | (with_reducible exact HR630.out) | (with_reducible refine Kd.C_alloc ?_ _) | (with_reducible refine Kd.C_drewN ?_ _) | (with_reducible refine Kd.C_drew ?_) | exact HR630.out)) hb); have n6_ := Aside0.mk (below_step (by repeat (first | (with_reducible first | exact HB.out | apply below_alloc | apply pw_below_drewN | apply below_drew1) | exact HB.out)) hb); clear HO606; clear HO609; clear HO613; clear HO633; clear HR623; clear HR630; clear HB; have HO606 := n0_; have HO609 := n1_; have HO613 := n2_; have HO633 := n3_; have HR623 := n4_; have HR630 := n5_; have HB := n6_; clear n0_ n1_ n2_ n3_ n4_ n5_ n6_; (try clear hb); (try clear hb2); (try clear hk); (try clear hi)))
             go_ret
             exact ⟨by first | rfl | (simp [errW_none, errW_some] <;> rfl) | (simp only [← hji15, ← hji23]; first | rfl | (simp [errW_none, errW_some] <;> rfl)) | (simp [*, errW_none, errW_some] <;> rfl), by repeat (first | (with_reducible first | exact HB.out | apply below_alloc | apply pw_below_drewN | apply below_drew1) | exact HB.out)⟩
          ·rw [if_neg c26] at H
           exact absurd H (by simp)
         ·rw [if_neg c25] at H
          exact absurd H (by simp)
        ·rw [if_neg c24] at H
         exact absurd H (by simp)
       ·rw [if_neg c22] at H
        exact absurd H (by simp)
      ·rw [if_neg c21] at H
       exact absurd H (by simp)
     ·rw [if_neg c17] at H
      exact absurd H (by simp)
    ·rw [if_neg c16] at H
     exact absurd H (by simp)
   ·rw [if_neg c14] at H
    exact absurd H (by simp)
  ·rw [if_neg c13] at H
   exact absurd H (by simp)

/-- THE ONE PURE STATEMENT of prebendlaw17_EasyRefused. -/
def prebendlaw17_EasyRefused.Pure : Prop := ∀ (a0 : Int) (l1 : List (S38)) (l2 : List (S52)) (a3 : Int), (Lit.int .u8 a0).wf = true → (l1.length ≤ maxLen ∧ ∀ y ∈ l1, g38 y) → (l2.length ≤ maxLen ∧ ∀ y ∈ l2, g52 y) → (Lit.int .u8 a3).wf = true → ∃ k, prebendlaw17_EasyRefused.f k a0 l1 l2 a3 = some true
theorem prebendlaw17_EasyRefused.walk (P : prebendlaw17_EasyRefused.Pure) (a0 : Int) (A1 : Option Addr) (c1 : Nat) (l1 : List (S38)) (A2 : Option Addr) (c2 : Nat) (l2 : List (S52)) (a3 : Int) (w : World) (hr1 : Kd.C k38 w A1 l1.length l1) (hc1 : l1.length ≤ c1) (hr2 : Kd.C k52 w A2 l2.length l2) (hc2 : l2.length ≤ c2) (h0_ : (Lit.int .u8 a0).wf = true) (h1_ : (l1.length ≤ maxLen ∧ ∀ y ∈ l1, g38 y)) (h2_ : (l2.length ≤ maxLen ∧ ∀ y ∈ l2, g52 y)) (h3_ : (Lit.int .u8 a3).wf = true) :
  Calls Try.prog 9 #[.int .u8 a0, .slice A1 l1.length c1, .slice A2 l2.length c2, .int .u8 a3] w fun e w' => e = .returned (.bool true) ∧ Below w.heap.size w w' := by
 obtain ⟨k, h⟩ := P a0 l1 l2 a3 h0_ h1_ h2_ h3_
 refine (prebendlaw17_EasyRefused.calls k a0 A1 c1 l1 A2 c2 l2 a3 true w hr1 hc1 hr2 hc2 h).mono ?_
 rintro e w' ⟨rfl, hd⟩
 exact ⟨rfl, hd⟩

end Go.Proofs.Ytedpoahndddgfaa.PAll
end
