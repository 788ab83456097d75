/- JobReads: what the jobs have, which are due and where one is: as the document says. -/
import Derived.Test.YtkhfgflcanmefaaBJobReads5
import Derived.Deep.Slices
import Derived.Deep.Fields
import Derived.ChangeSame
import Derived.ChangeArms
import Derived.OpenShut
import Derived.Test.YtkhfgflcanmefaaRows
import Derived.ProofKit
import Derived.ShutString
import Derived.ChangeOld
import Derived.Carry
section
namespace Go.Proofs.Ytkhfgflcanmefaa.PAll
open Go.RowKit Go.Proofs.YtkhfgflcanmefaaW.PrintWords Go.Proofs.YtkhfgflcanmefaaW.PrintLast Go.Proofs.YtkhfgflcanmefaaW.PrintMore
attribute [local go_sem] max2_int min2_int max_two min_two max_three min_three max_four min_four   -- for this text's walks alone
set_option linter.unusedVariables false
set_option linter.unusedSimpArgs false

def prebendlaw19_JobReads.f (k : Nat) (l0 : List (S32)) (a1 : Int) (a2 : Int) : Option (Bool) := (prebendref19_Held.f k l0).bind fun t477 => ((prebendlaw19_awake.f k).bind fun t480 => (if t480 = true then ((job_Find.f k t477 a1).bind fun t481 => ((prebendref19_Find.f k t477 a1).bind fun t482 => (if t481 = t482 then ((job_Mask.f k t477).bind fun t483 => ((prebendref19_Mask.f k t477).bind fun t484 => (if t483 = t484 then ((job_Busy.f k t477).bind fun t485 => ((prebendref19_Busy.f k t477).bind fun t488 => ((prebendref19_SameBusy.f k t485 t488).bind fun t491 => (if t491 = true then ((job_Boxes.f k t477).bind fun t492 => ((prebendref19_Boxes.f k t477).bind fun t495 => ((prebendref02_Boxes.f k t492 t495).bind fun t498 => (if t498 = true then ((job_Due.f k t477 a2).bind fun t499 => ((prebendref19_Due.f k t477 a2).bind fun t502 => ((prebendref01_Ints.f k t499 t502).bind fun t505 => (some t505)))) else (some false))))) else (some false))))) else (some false)))) else (some false)))) else (some false)))
theorem prebendlaw19_JobReads.mono : ∀ a0 a1 a2 k, LeO (prebendlaw19_JobReads.f k a0 a1 a2) (prebendlaw19_JobReads.f (k + 1) a0 a1 a2) := by
 intro a0 a1 a2 k
 unfold prebendlaw19_JobReads.f
 repeat' first
   | (with_reducible exact job_Boxes.mono _ _)
   | (with_reducible exact job_Busy.mono _ _)
   | (with_reducible exact job_Due.mono _ _ _)
   | (with_reducible exact job_Find.mono _ _ _)
   | (with_reducible exact job_Mask.mono _ _)
   | (with_reducible exact prebendlaw19_awake.mono _)
   | (with_reducible exact prebendref01_Ints.mono _ _ _)
   | (with_reducible exact prebendref02_Boxes.mono _ _ _)
   | (with_reducible exact prebendref19_Boxes.mono _ _)
   | (with_reducible exact prebendref19_Busy.mono _ _)
   | (with_reducible exact prebendref19_Due.mono _ _ _)
   | (with_reducible exact prebendref19_Find.mono _ _ _)
   | (with_reducible exact prebendref19_Held.mono _ _)
   | (with_reducible exact prebendref19_Mask.mono _ _)
   | (with_reducible exact prebendref19_SameBusy.mono _ _ _)
   | (with_reducible exact LeO.refl _)
   | (with_reducible exact LeO.none _)
   | (with_reducible refine LeO.ite ?_ ?_)
   | (with_reducible refine LeO.bind ?_ (fun _ => ?_))
   | exact job_Boxes.mono _ _
   | exact job_Busy.mono _ _
   | exact job_Due.mono _ _ _
   | exact job_Find.mono _ _ _
   | exact job_Mask.mono _ _
   | exact prebendlaw19_awake.mono _
   | exact prebendref01_Ints.mono _ _ _
   | exact prebendref02_Boxes.mono _ _ _
   | exact prebendref19_Boxes.mono _ _
   | exact prebendref19_Busy.mono _ _
   | exact prebendref19_Due.mono _ _ _
   | exact prebendref19_Find.mono _ _ _
   | exact prebendref19_Held.mono _ _
   | exact prebendref19_Mask.mono _ _
   | exact prebendref19_SameBusy.mono _ _ _
   | exact LeO.none _
   | refine LeO.ite ?_ ?_
   | refine LeO.bind ?_ (fun _ => ?_)
set_option maxHeartbeats 8000000 in
set_option maxRecDepth 100000 in
theorem prebendlaw19_JobReads.calls (k : Nat) (A0 : Option Addr) (c0 : Nat) (l0 : List (S32)) (a1 : Int) (a2 : Int) (w : World) (hr0 : Kd.C k32 w A0 l0.length l0) (hc0 : l0.length ≤ c0) (h : prebendlaw19_JobReads.f k l0 a1 a2 = some true) :
  Calls Try.prog 6 #[.slice A0 l0.length c0, .int .i64 a1, .int .i64 a2] w fun e w' => e = .returned (.bool true) ∧ Below w.heap.size w w' := by
 have HR0 := Aside0.mk hr0
 have HC0 := Aside0.mk hc0
 clear hr0; clear hc0
 have HB := Aside0.mk (Below.refl w.heap.size w)
 have H : ((prebendref19_Held.f k l0).bind fun t477 => ((prebendlaw19_awake.f k).bind fun t480 => (if t480 = true then ((job_Find.f k t477 a1).bind fun t481 => ((prebendref19_Find.f k t477 a1).bind fun t482 => (if t481 = t482 then ((job_Mask.f k t477).bind fun t483 => ((prebendref19_Mask.f k t477).bind fun t484 => (if t483 = t484 then ((job_Busy.f k t477).bind fun t485 => ((prebendref19_Busy.f k t477).bind fun t488 => ((prebendref19_SameBusy.f k t485 t488).bind fun t491 => (if t491 = true then ((job_Boxes.f k t477).bind fun t492 => ((prebendref19_Boxes.f k t477).bind fun t495 => ((prebendref02_Boxes.f k t492 t495).bind fun t498 => (if t498 = true then ((job_Due.f k t477 a2).bind fun t499 => ((prebendref19_Due.f k t477 a2).bind fun t502 => ((prebendref01_Ints.f k t499 t502).bind fun t505 => (some t505)))) else (some false))))) else (some false))))) else (some false)))) else (some false)))) else (some false)))) = some true := h
 clear h
 replace H := Option.bind_eq_some_iff.mp H
 obtain ⟨t477, A40, H⟩ := H
 replace H : ((prebendlaw19_awake.f k).bind fun t480 => (if t480 = true then ((job_Find.f k t477 a1).bind fun t481 => ((prebendref19_Find.f k t477 a1).bind fun t482 => (if t481 = t482 then ((job_Mask.f k t477).bind fun t483 => ((prebendref19_Mask.f k t477).bind fun t484 => (if t483 = t484 then ((job_Busy.f k t477).bind fun t485 => ((prebendref19_Busy.f k t477).bind fun t488 => ((prebendref19_SameBusy.f k t485 t488).bind fun t491 => (if t491 = true then ((job_Boxes.f k t477).bind fun t492 => ((prebendref19_Boxes.f k t477).bind fun t495 => ((prebendref02_Boxes.f k t492 t495).bind fun t498 => (if t498 = true then ((job_Due.f k t477 a2).bind fun t499 => ((prebendref19_Due.f k t477 a2).bind fun t502 => ((prebendref01_Ints.f k t499 t502).bind fun t505 => (some t505)))) else (some false))))) else (some false))))) else (some false)))) else (some false)))) else (some false))) = some true := H
 have A4 := Aside0.mk A40
 clear A40
 replace H := Option.bind_eq_some_iff.mp H
 obtain ⟨t480, A50, H⟩ := H
 replace H : (if t480 = true then ((job_Find.f k t477 a1).bind fun t481 => ((prebendref19_Find.f k t477 a1).bind fun t482 => (if t481 = t482 then ((job_Mask.f k t477).bind fun t483 => ((prebendref19_Mask.f k t477).bind fun t484 => (if t483 = t484 then ((job_Busy.f k t477).bind fun t485 => ((prebendref19_Busy.f k t477).bind fun t488 => ((prebendref19_SameBusy.f k t485 t488).bind fun t491 => (if t491 = true then ((job_Boxes.f k t477).bind fun t492 => ((prebendref19_Boxes.f k t477).bind fun t495 => ((prebendref02_Boxes.f k t492 t495).bind fun t498 => (if t498 = true then ((job_Due.f k t477 a2).bind fun t499 => ((prebendref19_Due.f k t477 a2).bind fun t502 => ((prebendref01_Ints.f k t499 t502).bind fun t505 => (some t505)))) else (some false))))) else (some false))))) else (some false)))) else (some false)))) else (some false)) = some true := H
 have A5 := Aside0.mk A50
 clear A50
 by_cases c6 : t480 = true
 ·subst c6
  have H1 : ((job_Find.f k t477 a1).bind fun t481 => ((prebendref19_Find.f k t477 a1).bind fun t482 => (if t481 = t482 then ((job_Mask.f k t477).bind fun t483 => ((prebendref19_Mask.f k t477).bind fun t484 => (if t483 = t484 then ((job_Busy.f k t477).bind fun t485 => ((prebendref19_Busy.f k t477).bind fun t488 => ((prebendref19_SameBusy.f k t485 t488).bind fun t491 => (if t491 = true then ((job_Boxes.f k t477).bind fun t492 => ((prebendref19_Boxes.f k t477).bind fun t495 => ((prebendref02_Boxes.f k t492 t495).bind fun t498 => (if t498 = true then ((job_Due.f k t477 a2).bind fun t499 => ((prebendref19_Due.f k t477 a2).bind fun t502 => ((prebendref01_Ints.f k t499 t502).bind fun t505 => (some t505)))) else (some false))))) else (some false))))) else (some false)))) else (some false)))) = some true := by rw [if_pos rfl] at H; exact H
  clear H
  have H := H1
  clear H1
  replace H := Option.bind_eq_some_iff.mp H
  obtain ⟨t481, A70, H⟩ := H
  replace H : ((prebendref19_Find.f k t477 a1).bind fun t482 => (if t481 = t482 then ((job_Mask.f k t477).bind fun t483 => ((prebendref19_Mask.f k t477).bind fun t484 => (if t483 = t484 then ((job_Busy.f k t477).bind fun t485 => ((prebendref19_Busy.f k t477).bind fun t488 => ((prebendref19_SameBusy.f k t485 t488).bind fun t491 => (if t491 = true then ((job_Boxes.f k t477).bind fun t492 => ((prebendref19_Boxes.f k t477).bind fun t495 => ((prebendref02_Boxes.f k t492 t495).bind fun t498 => (if t498 = true then ((job_Due.f k t477 a2).bind fun t499 => ((prebendref19_Due.f k t477 a2).bind fun t502 => ((prebendref01_Ints.f k t499 t502).bind fun t505 => (some t505)))) else (some false))))) else (some false))))) else (some false)))) else (some false))) = some true := H
  have A7 := Aside0.mk A70
  clear A70
  replace H := Option.bind_eq_some_iff.mp H
  obtain ⟨t482, A80, H⟩ := H
  replace H : (if t481 = t482 then ((job_Mask.f k t477).bind fun t483 => ((prebendref19_Mask.f k t477).bind fun t484 => (if t483 = t484 then ((job_Busy.f k t477).bind fun t485 => ((prebendref19_Busy.f k t477).bind fun t488 => ((prebendref19_SameBusy.f k t485 t488).bind fun t491 => (if t491 = true then ((job_Boxes.f k t477).bind fun t492 => ((prebendref19_Boxes.f k t477).bind fun t495 => ((prebendref02_Boxes.f k t492 t495).bind fun t498 => (if t498 = true then ((job_Due.f k t477 a2).bind fun t499 => ((prebendref19_Due.f k t477 a2).bind fun t502 => ((prebendref01_Ints.f k t499 t502).bind fun t505 => (some t505)))) else (some false))))) else (some false))))) else (some false)))) else (some false)) = some true := H
  have A8 := Aside0.mk A80
  clear A80
  by_cases c9 : t481 = t482
  ·rw [if_pos c9] at H
   have c9b0 : (t481 == t482) = true := beq_iff_eq.mpr c9
   have c9b1 : (t481 != t482) = false := bne_eq_false_iff_eq.mpr c9
   clear c9
   replace H := Option.bind_eq_some_iff.mp H
   obtain ⟨t483, A100, H⟩ := H
   replace H : ((prebendref19_Mask.f k t477).bind fun t484 => (if t483 = t484 then ((job_Busy.f k t477).bind fun t485 => ((prebendref19_Busy.f k t477).bind fun t488 => ((prebendref19_SameBusy.f k t485 t488).bind fun t491 => (if t491 = true then ((job_Boxes.f k t477).bind fun t492 => ((prebendref19_Boxes.f k t477).bind fun t495 => ((prebendref02_Boxes.f k t492 t495).bind fun t498 => (if t498 = true then ((job_Due.f k t477 a2).bind fun t499 => ((prebendref19_Due.f k t477 a2).bind fun t502 => ((prebendref01_Ints.f k t499 t502).bind fun t505 => (some t505)))) else (some false))))) else (some false))))) else (some false))) = some true := H
   have A10 := Aside0.mk A100
   clear A100
   replace H := Option.bind_eq_some_iff.mp H
   obtain ⟨t484, A110, H⟩ := H
   replace H : (if t483 = t484 then ((job_Busy.f k t477).bind fun t485 => ((prebendref19_Busy.f k t477).bind fun t488 => ((prebendref19_SameBusy.f k t485 t488).bind fun t491 => (if t491 = true then ((job_Boxes.f k t477).bind fun t492 => ((prebendref19_Boxes.f k t477).bind fun t495 => ((prebendref02_Boxes.f k t492 t495).bind fun t498 => (if t498 = true then ((job_Due.f k t477 a2).bind fun t499 => ((prebendref19_Due.f k t477 a2).bind fun t502 => ((prebendref01_Ints.f k t499 t502).bind fun t505 => (some t505)))) else (some false))))) else (some false))))) else (some false)) = some true := H
   have A11 := Aside0.mk A110
   clear A110
   by_cases c12 : t483 = t484
   ·rw [if_pos c12] at H
    have c12b0 : (t483 == t484) = true := beq_iff_eq.mpr c12
    have c12b1 : (t483 != t484) = false := bne_eq_false_iff_eq.mpr c12
    clear c12
    replace H := Option.bind_eq_some_iff.mp H
    obtain ⟨t485, A130, H⟩ := H
    replace H : ((prebendref19_Busy.f k t477).bind fun t488 => ((prebendref19_SameBusy.f k t485 t488).bind fun t491 => (if t491 = true then ((job_Boxes.f k t477).bind fun t492 => ((prebendref19_Boxes.f k t477).bind fun t495 => ((prebendref02_Boxes.f k t492 t495).bind fun t498 => (if t498 = true then ((job_Due.f k t477 a2).bind fun t499 => ((prebendref19_Due.f k t477 a2).bind fun t502 => ((prebendref01_Ints.f k t499 t502).bind fun t505 => (some t505)))) else (some false))))) else (some false)))) = some true := H
    have A13 := Aside0.mk A130
    clear A130
    replace H := Option.bind_eq_some_iff.mp H
    obtain ⟨t488, A140, H⟩ := H
    replace H : ((prebendref19_SameBusy.f k t485 t488).bind fun t491 => (if t491 = true then ((job_Boxes.f k t477).bind fun t492 => ((prebendref19_Boxes.f k t477).bind fun t495 => ((prebendref02_Boxes.f k t492 t495).bind fun t498 => (if t498 = true then ((job_Due.f k t477 a2).bind fun t499 => ((prebendref19_Due.f k t477 a2).bind fun t502 => ((prebendref01_Ints.f k t499 t502).bind fun t505 => (some t505)))) else (some false))))) else (some false))) = some true := H
    have A14 := Aside0.mk A140
    clear A140
    replace H := Option.bind_eq_some_iff.mp H
    obtain ⟨t491, A150, H⟩ := H
    replace H : (if t491 = true then ((job_Boxes.f k t477).bind fun t492 => ((prebendref19_Boxes.f k t477).bind fun t495 => ((prebendref02_Boxes.f k t492 t495).bind fun t498 => (if t498 = true then ((job_Due.f k t477 a2).bind fun t499 => ((prebendref19_Due.f k t477 a2).bind fun t502 => ((prebendref01_Ints.f k t499 t502).bind fun t505 => (some t505)))) else (some false))))) else (some false)) = some true := H
    have A15 := Aside0.mk A150
    clear A150
    by_cases c16 : t491 = true
    ·subst c16
     have H1 : ((job_Boxes.f k t477).bind fun t492 => ((prebendref19_Boxes.f k t477).bind fun t495 => ((prebendref02_Boxes.f k t492 t495).bind fun t498 => (if t498 = true then ((job_Due.f k t477 a2).bind fun t499 => ((prebendref19_Due.f k t477 a2).bind fun t502 => ((prebendref01_Ints.f k t499 t502).bind fun t505 => (some t505)))) else (some false))))) = some true := by rw [if_pos rfl] at H; exact H
     clear H
     have H := H1
     clear H1
     replace H := Option.bind_eq_some_iff.mp H
     obtain ⟨t492, A170, H⟩ := H
     replace H : ((prebendref19_Boxes.f k t477).bind fun t495 => ((prebendref02_Boxes.f k t492 t495).bind fun t498 => (if t498 = true then ((job_Due.f k t477 a2).bind fun t499 => ((prebendref19_Due.f k t477 a2).bind fun t502 => ((prebendref01_Ints.f k t499 t502).bind fun t505 => (some t505)))) else (some false)))) = some true := H
     have A17 := Aside0.mk A170
     clear A170
     replace H := Option.bind_eq_some_iff.mp H
     obtain ⟨t495, A180, H⟩ := H
     replace H : ((prebendref02_Boxes.f k t492 t495).bind fun t498 => (if t498 = true then ((job_Due.f k t477 a2).bind fun t499 => ((prebendref19_Due.f k t477 a2).bind fun t502 => ((prebendref01_Ints.f k t499 t502).bind fun t505 => (some t505)))) else (some false))) = some true := H
     have A18 := Aside0.mk A180
     clear A180
     replace H := Option.bind_eq_some_iff.mp H
     obtain ⟨t498, A190, H⟩ := H
     replace H : (if t498 = true then ((job_Due.f k t477 a2).bind fun t499 => ((prebendref19_Due.f k t477 a2).bind fun t502 => ((prebendref01_Ints.f k t499 t502).bind fun t505 => (some t505)))) else (some false)) = some true := H
     have A19 := Aside0.mk A190
     clear A190
     by_cases c20 : t498 = true
     ·subst c20
      have H1 : ((job_Due.f k t477 a2).bind fun t499 => ((prebendref19_Due.f k t477 a2).bind fun t502 => ((prebendref01_Ints.f k t499 t502).bind fun t505 => (some t505)))) = some true := by rw [if_pos rfl] at H; exact H
      clear H
      have H := H1
      clear H1
      replace H := Option.bind_eq_some_iff.mp H
      obtain ⟨t499, A210, H⟩ := H
      replace H : ((prebendref19_Due.f k t477 a2).bind fun t502 => ((prebendref01_Ints.f k t499 t502).bind fun t505 => (some t505))) = some true := H
      have A21 := Aside0.mk A210
      clear A210
      replace H := Option.bind_eq_some_iff.mp H
      obtain ⟨t502, A220, H⟩ := H
      replace H : ((prebendref01_Ints.f k t499 t502).bind fun t505 => (some t505)) = some true := H
      have A22 := Aside0.mk A220
      clear A220
      replace H := Option.bind_eq_some_iff.mp H
      obtain ⟨t505, A230, H⟩ := H
      replace H : (some t505) = some true := H
      have A23 := Aside0.mk A230
      clear A230
      obtain rfl := Option.some.inj H
      go_enter Try.func6, Try.ntmps6
      go_wp2_with (first | ((with_reducible refine gate_callee (f := 15) rfl ?_); refine goesL_ (some 9) rfl rfl Try.func15 (by kernel_rfl) rfl #[.slice A0 l0.length c0] rfl mt ?_; (with_reducible refine (prebendref19_Held.calls k _ _ l0 t477 _ ?side1 ?side2 A4.out).mono ?_); (case side1 => exact mC HR0.out); (case side2 => exact HC0.out); rintro e w24 ⟨v478, rfl, ho0, hb⟩; refine ⟨_, rfl, ?_⟩; have n0_ := Aside0.mk (Kd.R_lower ho0 (below_size (mB HB.out))); have n1_ := Aside0.mk (below_step (mB HB.out) hb); clear HB; have HO479 := n0_; have HB := n1_; clear n0_ n1_; (try clear hb); (try clear hb2); (try clear hk); (try clear hi); (try clear ho0)) | ((with_reducible refine gate_callee (f := 16) rfl ?_); refine goesL_ (some 10) rfl rfl Try.func16 (by kernel_rfl) rfl #[] rfl mt ?_; (with_reducible refine (prebendlaw19_awake.calls k  _ A5.out).mono ?_); rintro e w25 ⟨rfl, hb⟩; refine ⟨_, rfl, ?_⟩; have n0_ := Aside0.mk (Kd.R_below (mR HO479.out) hb); have n1_ := Aside0.mk (below_step (mB HB.out) hb); clear HO479; clear HB; have HO479 := n0_; have HB := n1_; clear n0_ n1_; (try clear hb); (try clear hb2); (try clear hk); (try clear hi); obtain ⟨Ao26, co26, eo26⟩ := Kd.R_slice HO479.out; subst eo26) | (go_at_call 17; (with_reducible refine (job_Find.calls k _ _ t477 a1 t481 _ ?side1 ?side2 A7.out).mono ?_); (case side1 => exact mC (Kd.R_reads' HO479.out).2.2); (case side2 => exact (Kd.R_reads' HO479.out).2.1); rintro e w27 ⟨rfl, hb⟩; have n0_ := Aside0.mk (Kd.R_below (mR HO479.out) hb); have n1_ := Aside0.mk (below_step (mB HB.out) hb); clear HO479; clear HB; have HO479 := n0_; have HB := n1_; clear n0_ n1_; (try clear hb); (try clear hb2); (try clear hk); (try clear hi)) | (go_at_call 18; (with_reducible refine (prebendref19_Find.calls k _ _ t477 a1 t482 _ ?side1 ?side2 A8.out).mono ?_); (case side1 => exact mC (Kd.R_reads' HO479.out).2.2); (case side2 => exact (Kd.R_reads' HO479.out).2.1); rintro e w' ⟨rfl, ⟨nd, rfl⟩⟩) | (go_at_call 19; (with_reducible refine (job_Mask.calls k _ _ t477 t483 _ ?side1 ?side2 A10.out).mono ?_); (case side1 => exact mC (Kd.R_reads' HO479.out).2.2); (case side2 => exact (Kd.R_reads' HO479.out).2.1); rintro e w28 ⟨rfl, hb⟩; have n0_ := Aside0.mk (Kd.R_below (mR HO479.out) hb); have n1_ := Aside0.mk (below_step (mB HB.out) hb); clear HO479; clear HB; have HO479 := n0_; have HB := n1_; clear n0_ n1_; (try clear hb); (try clear hb2); (try clear hk); (try clear hi)) | (go_at_call 20; (with_reducible refine (prebendref19_Mask.calls k _ _ t477 t484 _ ?side1 ?side2 A11.out).mono ?_); (case side1 => exact mC (Kd.R_reads' HO479.out).2.2); (case side2 => exact (Kd.R_reads' HO479.out).2.1); rintro e w' ⟨rfl, ⟨nd, rfl⟩⟩) | (go_at_call 22; (with_reducible refine (job_Busy.calls k _ _ t477 t485 _ ?side1 ?side2 A13.out).mono ?_); (case side1 => exact mC (Kd.R_reads' HO479.out).2.2); (case side2 => exact (Kd.R_reads' HO479.out).2.1); rintro e w29 ⟨v486, rfl, ho0, hb⟩; have n0_ := Aside0.mk (Kd.R_below (mR HO479.out) hb); have n1_ := Aside0.mk (Kd.V_lower (Kd.V_mono (ok' := fun k_ => some k_ ≠ (.slice Ao26 t477.length co26 : Value).ownBlock) ho0 (fun k_ hk_ => (Kd.fresh' (Kd.R_lt (mR HO479.out)) k_ hk_))) (below_size (mB HB.out))); have n2_ := Aside0.mk (below_step (mB HB.out) hb); clear HO479; clear HB; have HO479 := n0_; have HO487 := n1_; have HB := n2_; clear n0_ n1_ n2_; (try clear hb); (try clear hb2); (try clear hk); (try clear hi); (try clear ho0)) | (go_at_call 23; (with_reducible refine (prebendref19_Busy.calls k _ _ t477 t488 _ ?side1 ?side2 A14.out).mono ?_); (case side1 => exact mC (Kd.R_reads' HO479.out).2.2); (case side2 => exact (Kd.R_reads' HO479.out).2.1); rintro e w30 ⟨v489, rfl, ho0, hb⟩; have n0_ := Aside0.mk (Kd.R_below (mR HO479.out) hb); have n1_ := Aside0.mk (Kd.V_elder' (mV HO487.out) (Kd.R_base ho0) hb); have n2_ := Aside0.mk (Kd.R_lower ho0 (below_size (mB HB.out))); have n3_ := Aside0.mk (below_step (mB HB.out) hb); clear HO479; clear HO487; clear HB; have HO479 := n0_; have HO487 := n1_; have HO490 := n2_; have HB := n3_; clear n0_ n1_ n2_ n3_; (try clear hb); (try clear hb2); (try clear hk); (try clear hi); (try clear ho0); obtain ⟨Ao31, co31, eo31⟩ := Kd.V_slice HO487.out; subst eo31; obtain ⟨Ao32, co32, eo32⟩ := Kd.R_slice HO490.out; subst eo32) | (go_at_call 21; (with_reducible refine (prebendref19_SameBusy.calls k _ _ t485 _ _ t488 true _ ?side1 ?side2 ?side3 ?side4 A15.out).mono ?_); (case side1 => exact mC (Kd.V_reads' HO487.out).2.2); (case side2 => exact (Kd.V_reads' HO487.out).2.1); (case side3 => exact mC (Kd.R_reads' HO490.out).2.2); (case side4 => exact (Kd.R_reads' HO490.out).2.1); rintro e w' ⟨rfl, ⟨nd, rfl⟩⟩) | (go_at_call 25; (with_reducible refine (job_Boxes.calls k _ _ t477 t492 _ ?side1 ?side2 A17.out).mono ?_); (case side1 => exact mC (Kd.R_reads' HO479.out).2.2); (case side2 => exact (Kd.R_reads' HO479.out).2.1); rintro e w33 ⟨v493, rfl, ho0, hb⟩; have n0_ := Aside0.mk (Kd.R_below (mR HO479.out) hb); have n1_ := Aside0.mk (Kd.V_below (mV HO487.out) hb); have n2_ := Aside0.mk (Kd.R_below (mR HO490.out) hb); have n3_ := Aside0.mk (Kd.V_lower (Kd.V_mono (ok' := fun k_ => some k_ ≠ (.slice Ao26 t477.length co26 : Value).ownBlock ∧ some k_ ≠ (.slice Ao32 t488.length co32 : Value).ownBlock) ho0 (fun k_ hk_ => ⟨(Kd.fresh' (Kd.R_lt (mR HO479.out)) k_ hk_), (Kd.fresh' (Kd.R_lt (mR HO490.out)) k_ hk_)⟩)) (below_size (mB HB.out))); have n4_ := Aside0.mk (below_step (mB HB.out) hb); clear HO479; clear HO487; clear HO490; clear HB; have HO479 := n0_; have HO487 := n1_; have HO490 := n2_; have HO494 := n3_; have HB := n4_; clear n0_ n1_ n2_ n3_ n4_; (try clear hb); (try clear hb2); (try clear hk); (try clear hi); (try clear ho0)) | (go_at_call 26; (with_reducible refine (prebendref19_Boxes.calls k _ _ t477 t495 _ ?side1 ?side2 A18.out).mono ?_); (case side1 => exact mC (Kd.R_reads' HO479.out).2.2); (case side2 => exact (Kd.R_reads' HO479.out).2.1); rintro e w34 ⟨v496, rfl, ho0, hb⟩; have n0_ := Aside0.mk (Kd.R_below (mR HO479.out) hb); have n1_ := Aside0.mk (Kd.V_elder' (mV HO487.out) (Kd.R_base ho0) hb); have n2_ := Aside0.mk (Kd.R_below (mR HO490.out) hb); have n3_ := Aside0.mk (Kd.V_elder' (mV HO494.out) (Kd.R_base ho0) hb); have n4_ := Aside0.mk (Kd.R_lower ho0 (below_size (mB HB.out))); have n5_ := Aside0.mk (below_step (mB HB.out) hb); clear HO479; clear HO487; clear HO490; clear HO494; clear HB; have HO479 := n0_; have HO487 := n1_; have HO490 := n2_; have HO494 := n3_; have HO497 := n4_; have HB := n5_; clear n0_ n1_ n2_ n3_ n4_ n5_; (try clear hb); (try clear hb2); (try clear hk); (try clear hi); (try clear ho0); obtain ⟨Ao35, co35, eo35⟩ := Kd.V_slice HO494.out; subst eo35; obtain ⟨Ao36, co36, eo36⟩ := Kd.R_slice HO497.out; subst eo36) | (go_at_call 24; (with_reducible refine (prebendref02_Boxes.calls k _ _ t492 _ _ t495 true _ ?side1 ?side2 ?side3 ?side4 A19.out).mono ?_); (case side1 => exact mC (Kd.V_reads' HO494.out).2.2); (case side2 => exact (Kd.V_reads' HO494.out).2.1); (case side3 => exact mC (Kd.R_reads' HO497.out).2.2); (case side4 => exact (Kd.R_reads' HO497.out).2.1); rintro e w' ⟨rfl, ⟨nd, rfl⟩⟩) | (go_at_call 27; (with_reducible refine (job_Due.calls k _ _ t477 a2 t499 _ ?side1 ?side2 A21.out).mono ?_); (case side1 => exact mC (Kd.R_reads' HO479.out).2.2); (case side2 => exact (Kd.R_reads' HO479.out).2.1); rintro e w37 ⟨v500, rfl, ho0, hb⟩; have n0_ := Aside0.mk (Kd.R_below (mR HO479.out) hb); have n1_ := Aside0.mk (Kd.V_below (mV HO487.out) hb); have n2_ := Aside0.mk (Kd.R_below (mR HO490.out) hb); have n3_ := Aside0.mk (Kd.V_below (mV HO494.out) hb); have n4_ := Aside0.mk (Kd.R_below (mR HO497.out) hb); have n5_ := Aside0.mk (Kd.V_lower (Kd.V_mono (ok' := fun k_ => some k_ ≠ (.slice Ao26 t477.length co26 : Value).ownBlock ∧ some k_ ≠ (.slice Ao32 t488.length co32 : Value).ownBlock ∧ some k_ ≠ (.slice Ao36 t495.length co36 : Value).ownBlock) ho0 (fun k_ hk_ => ⟨(Kd.fresh' (Kd.R_lt (mR HO479.out)) k_ hk_), (Kd.fresh' (Kd.R_lt (mR HO490.out)) k_ hk_), (Kd.fresh' (Kd.R_lt (mR HO497.out)) k_ hk_)⟩)) (below_size (mB HB.out))); have n6_ := Aside0.mk (below_step (mB HB.out) hb); clear HO479; clear HO487; clear HO490; clear HO494; clear HO497; clear HB; have HO479 := n0_; have HO487 := n1_; have HO490 := n2_; have HO494 := n3_; have HO497 := n4_; have HO501 := n5_; have HB := n6_; clear n0_ n1_ n2_ n3_ n4_ n5_ n6_; (try clear hb); (try clear hb2); (try clear hk); (try clear hi); (try clear ho0)) | (go_at_call 28; (with_reducible refine (prebendref19_Due.calls k _ _ t477 a2 t502 _ ?side1 ?side2 A22.out).mono ?_); (case side1 => exact mC (Kd.R_reads' HO479.out).2.2); (case side2 => exact (Kd.R_reads' HO479.out).2.1); rintro e w38 ⟨v503, rfl, ho0, hb⟩; have n0_ := Aside0.mk (Kd.R_below (mR HO479.out) hb); have n1_ := Aside0.mk (Kd.V_elder' (mV HO487.out) (Kd.R_base ho0) hb); have n2_ := Aside0.mk (Kd.R_below (mR HO490.out) hb); have n3_ := Aside0.mk (Kd.V_elder' (mV HO494.out) (Kd.R_base ho0) hb); have n4_ := Aside0.mk (Kd.R_below (mR HO497.out) hb); have n5_ := Aside0.mk (Kd.V_elder' (mV HO501.out) (Kd.R_base ho0) hb); have n6_ := Aside0.mk (Kd.R_lower ho0 (below_size (mB HB.out))); have n7_ := Aside0.mk (below_step (mB HB.out) hb); clear HO479; clear HO487; clear HO490; clear HO494; clear HO497; clear HO501; clear HB; have HO479 := n0_; have HO487 := n1_; have HO490 := n2_; have HO494 := n3_; have HO497 := n4_; have HO501 := n5_; have HO504 := n6_; have HB := n7_; clear n0_ n1_ n2_ n3_ n4_ n5_ n6_ n7_; (try clear hb); (try clear hb2); (try clear hk); (try clear hi); (try clear ho0); obtain ⟨Ao39, co39, eo39⟩ := Kd.V_slice HO501.out; subst eo39; obtain ⟨Ao40, co40, eo40⟩ := Kd.R_slice HO504.out; subst eo40) | (go_at_call 13; (with_reducible refine (prebendref01_Ints.calls k _ _ t499 _ _ t502 true _ ?side1 ?side2 ?side3 ?side4 A23.out).mono ?_); (case side1 => exact mC (Kd.V_reads' HO501.out).2.2); (case side2 => exact (Kd.V_reads' HO501.out).2.1); (case side3 => exact mC (Kd.R_reads' HO504.out).2.2); (case side4 => exact (Kd.R_reads' HO504.out).2.1); rintro e w' ⟨rfl, ⟨nd, rfl⟩⟩))
      go_ret
      exact ⟨by first | rfl | (simp [errW_none, errW_some] <;> rfl) | (simp [*, errW_none, errW_some] <;> rfl), by repeat (first | (with_reducible first | exact HB.out | apply below_alloc | apply pw_below_drewN | apply below_drew1) | exact HB.out)⟩
     ·replace c20 := Bool.eq_false_iff.mpr c20
      subst c20
      have H1 : (some false) = some true := by rw [if_neg (show ¬ (false = true) by decide)] at H; exact H
      exact absurd (Option.some.inj H1) (by decide)
    ·replace c16 := Bool.eq_false_iff.mpr c16
     subst c16
     have H1 : (some false) = some true := by rw [if_neg (show ¬ (false = true) by decide)] at H; exact H
     exact absurd (Option.some.inj H1) (by decide)
   ·rw [if_neg c12] at H
    exact absurd (Option.some.inj H) (by decide)
  ·rw [if_neg c9] at H
   exact absurd (Option.some.inj H) (by decide)
 ·replace c6 := Bool.eq_false_iff.mpr c6
  subst c6
  have H1 : (some false) = some true := by rw [if_neg (show ¬ (false = true) by decide)] at H; exact H
  exact absurd (Option.some.inj H1) (by decide)/-- THE ONE PURE STATEMENT of prebendlaw19_JobReads. -/
def prebendlaw19_JobReads.Pure : Prop := ∀ (l0 : List (S32)) (a1 : Int) (a2 : Int), (l0.length ≤ maxLen ∧ ∀ y ∈ l0, g32 y) → (Lit.int .i64 a1).wf = true → (Lit.int .i64 a2).wf = true → ∃ k, prebendlaw19_JobReads.f k l0 a1 a2 = some true
theorem prebendlaw19_JobReads.walk (P : prebendlaw19_JobReads.Pure) (A0 : Option Addr) (c0 : Nat) (l0 : List (S32)) (a1 : Int) (a2 : Int) (w : World) (hr0 : Kd.C k32 w A0 l0.length l0) (hc0 : l0.length ≤ c0) (h0_ : (l0.length ≤ maxLen ∧ ∀ y ∈ l0, g32 y)) (h1_ : (Lit.int .i64 a1).wf = true) (h2_ : (Lit.int .i64 a2).wf = true) :
  Calls Try.prog 6 #[.slice A0 l0.length c0, .int .i64 a1, .int .i64 a2] w fun e w' => e = .returned (.bool true) ∧ Below w.heap.size w w' := by
 obtain ⟨k, h⟩ := P l0 a1 a2 h0_ h1_ h2_
 refine (prebendlaw19_JobReads.calls k A0 c0 l0 a1 a2 w hr0 hc0 h).mono ?_
 rintro e w' ⟨rfl, hd⟩
 exact ⟨rfl, hd⟩

end Go.Proofs.Ytkhfgflcanmefaa.PAll
end
section
set_option linter.unusedVariables false
set_option linter.unusedSimpArgs false
namespace Go.Proofs.Ytkhfgflcanmefaa.Pure
open Go Go.RowKit Go.Proofs.Ytkhfgflcanmefaa.PAll Go.Proofs.YtkhfgflcanmefaaW.PrintWords Go.Proofs.YtkhfgflcanmefaaW.PrintLast
section SortA
variable {α : Type}
structure TP (le : α → α → Bool) : Prop where
  total : ∀ a b, le a b = true ∨ le b a = true
  trans : ∀ {a b c}, le a b = true → le b c = true → le a c = true
def eqv (le : α → α → Bool) (a b : α) : Bool := le a b && le b a
def SEq (le : α → α → Bool) (xs ys : List α) : Prop := ∀ c, xs.filter (eqv le c) = ys.filter (eqv le c)
abbrev Srt (le : α → α → Bool) (xs : List α) : Prop := xs.Pairwise (fun a b => le a b = true)
variable {le : α → α → Bool}
theorem TP.refl (h : TP le) (a : α) : le a a = true := by rcases h.total a a with h | h <;> exact h
theorem TP.of_not (h : TP le) {a b : α} (hn : le a b = false) : le b a = true := by
  rcases h.total a b with h1 | h1
  · rw [hn] at h1; cases h1
  · exact h1
theorem SEq.refl (xs : List α) : SEq le xs xs := fun _ => rfl
theorem SEq.symm {xs ys : List α} (h : SEq le xs ys) : SEq le ys xs := fun c => (h c).symm
theorem SEq.trans {xs ys zs : List α} (h : SEq le xs ys) (h2 : SEq le ys zs) : SEq le xs zs := fun c => (h c).trans (h2 c)
theorem SEq.append {xs ys xs' ys' : List α} (h : SEq le xs ys) (h2 : SEq le xs' ys') : SEq le (xs ++ xs') (ys ++ ys') := fun c => by
  rw [List.filter_append, List.filter_append, h c, h2 c]
theorem SEq.cons (x : α) {xs ys : List α} (h : SEq le xs ys) : SEq le (x :: xs) (x :: ys) := fun c => by
  rw [List.filter_cons, List.filter_cons, h c]
theorem SEq.mem (ht : TP le) {xs ys : List α} (h : SEq le xs ys) {x : α} (hx : x ∈ xs) : x ∈ ys := by
  have h1 : x ∈ xs.filter (eqv le x) := List.mem_filter.2 ⟨hx, by simp [eqv, ht.refl]⟩
  rw [h x] at h1
  exact (List.mem_filter.1 h1).1
theorem SEq.swap (ht : TP le) {A B : List α} (h : ∀ a ∈ A, ∀ b ∈ B, le a b = false) : SEq le (A ++ B) (B ++ A) := fun c => by
  rw [List.filter_append, List.filter_append]
  by_cases hA : A.filter (eqv le c) = []
  · rw [hA]; simp
  · have hB : B.filter (eqv le c) = [] := by
      rw [List.filter_eq_nil_iff]
      intro b hb hcb
      obtain ⟨a, ha⟩ := List.exists_mem_of_ne_nil _ hA
      obtain ⟨ha, hca⟩ := List.mem_filter.1 ha
      simp only [eqv, Bool.and_eq_true] at hca hcb
      have := h a ha b hb
      rw [ht.trans hca.2 hcb.1] at this
      cases this
    rw [hB]; simp
theorem SEq.uniq (ht : TP le) : ∀ {xs ys : List α}, Srt le xs → Srt le ys → SEq le xs ys → xs = ys
  | [], [], _, _, _ => rfl
  | [], y :: ys, _, _, h => by have := SEq.mem ht (SEq.symm h) (List.mem_cons_self (a := y)); simp at this
  | x :: xs, [], _, _, h => by have := SEq.mem ht h (List.mem_cons_self (a := x)); simp at this
  | x :: xs, y :: ys, hx, hy, h => by
    have hx' := List.pairwise_cons.1 hx
    have hy' := List.pairwise_cons.1 hy
    have h1 : le y x = true := by
      rcases List.mem_cons.1 (SEq.mem ht h (List.mem_cons_self (a := x))) with e | e
      · rw [e]; exact ht.refl _
      · exact hy'.1 _ e
    have h2 : le x y = true := by
      rcases List.mem_cons.1 (SEq.mem ht (SEq.symm h) (List.mem_cons_self (a := y))) with e | e
      · rw [e]; exact ht.refl _
      · exact hx'.1 _ e
    have h3 := h x
    rw [List.filter_cons, List.filter_cons, if_pos (by simp [eqv, ht.refl]), if_pos (by simp [eqv, h1, h2])] at h3
    have h4 : x = y := by injection h3
    subst h4
    rw [SEq.uniq ht hx'.2 hy'.2 (fun c => by
      have h5 := h c
      rw [List.filter_cons, List.filter_cons] at h5
      split at h5
      · injection h5
      · exact h5)]
def ins (le : α → α → Bool) (x : α) : List α → List α
  | [] => [x]
  | y :: ys => if le x y = true then x :: y :: ys else y :: ins le x ys
def isort (le : α → α → Bool) : List α → List α
  | [] => []
  | x :: xs => ins le x (isort le xs)
theorem ins_perm (x : α) : ∀ ys : List α, (ins le x ys).Perm (x :: ys)
  | [] => .refl _
  | y :: ys => by
    unfold ins
    split
    · exact .refl _
    · exact ((ins_perm x ys).cons y).trans (.swap x y ys)
theorem isort_perm : ∀ xs : List α, (isort le xs).Perm xs
  | [] => .refl _
  | x :: xs => (ins_perm x _).trans ((isort_perm xs).cons x)
theorem ins_srt (ht : TP le) (x : α) : ∀ {ys : List α}, Srt le ys → Srt le (ins le x ys)
  | [], _ => by simp [ins]
  | y :: ys, h => by
    have h' := List.pairwise_cons.1 h
    unfold ins
    split
    · next hxy => exact List.pairwise_cons.2 ⟨fun z hz => by
        rcases List.mem_cons.1 hz with rfl | hz
        · exact hxy
        · exact ht.trans hxy (h'.1 z hz), h⟩
    · next hxy => exact List.pairwise_cons.2 ⟨fun z hz => by
        rcases List.mem_cons.1 ((ins_perm x ys).mem_iff.1 hz) with rfl | hz
        · exact ht.of_not (by simpa using hxy)
        · exact h'.1 z hz, ins_srt ht x h'.2⟩
theorem isort_srt (ht : TP le) : ∀ xs : List α, Srt le (isort le xs)
  | [] => .nil
  | x :: xs => ins_srt ht x (isort_srt ht xs)
theorem ins_seq (ht : TP le) (x : α) : ∀ ys : List α, SEq le (ins le x ys) (x :: ys)
  | [] => .refl _
  | y :: ys => by
    unfold ins
    split
    · exact .refl _
    · next hxy =>
      refine ((ins_seq ht x ys).cons y).trans ?_
      have := SEq.swap (le := le) ht (A := [x]) (B := [y]) (fun a ha b hb => by simp at ha hb; subst ha; subst hb; simpa using hxy)
      exact (SEq.append this (SEq.refl ys)).symm
theorem isort_seq (ht : TP le) : ∀ xs : List α, SEq le (isort le xs) xs
  | [] => .refl _
  | x :: xs => (ins_seq ht x _).trans ((isort_seq ht xs).cons x)
theorem isort_eq (ht : TP le) {xs ys : List α} (h : Srt le ys) (h2 : SEq le ys xs) : ys = isort le xs :=
  SEq.uniq ht h (isort_srt ht xs) (h2.trans (isort_seq ht xs).symm)
end SortA
section SortB
variable {α : Type} {d : α} {le : α → α → Bool} {cmp : α → α → Option Int}
theorem wr_ (n : Int) (h : -9223372036854775808 ≤ n) (h2 : n < 9223372036854775808) : wrap64 n = n := by unfold wrap64; omega
theorem half_ (x y : Int) (hx : 0 ≤ x) (hy : 0 ≤ y) (h : x + y < 9223372036854775808) : wrap64 ((IntKind.u64.wrap (wrap64 (x + y))) / 2) = (x + y) / 2 := by
  rw [wr_ (x + y) (by omega) h]
  have : IntKind.u64.wrap (x + y) = x + y := by
    show (x + y) % 18446744073709551616 = x + y
    omega
  rw [this, wr_ _ (by omega) (by omega)]
theorem gt_ (p q : List α) (x : α) (i : Int) (hi : i = p.length) : (p ++ x :: q).getD i.toNat d = x := by
  subst hi; simp [List.getD_eq_getElem?_getD]
theorem st_ (p q : List α) (x v : α) (i : Int) (hi : i = p.length) : (p ++ x :: q).set i.toNat v = p ++ v :: q := by
  subst hi; simp
theorem swp_ (p m q : List α) (x y : α) (i j : Int) (hi : i = p.length) (hj : j = p.length + 1 + m.length) : ((p ++ x :: (m ++ y :: q)).set i.toNat y).set j.toNat x = p ++ y :: (m ++ x :: q) := by
  rw [st_ p _ x y i hi]
  have := st_ (p ++ y :: m) q y x j (by simp; omega)
  simpa using this
theorem swp'_ (p m q : List α) (x y : α) (i j : Int) (hi : i = p.length) (hj : j = p.length + 1 + m.length) : ((p ++ x :: (m ++ y :: q)).set j.toNat x).set i.toNat y = p ++ y :: (m ++ x :: q) := by
  have := st_ (p ++ x :: m) q y x j (by simp; omega)
  rw [show p ++ x :: (m ++ y :: q) = (p ++ x :: m) ++ y :: q by simp, this, show (p ++ x :: m) ++ x :: q = p ++ x :: (m ++ x :: q) by simp, st_ p _ x y i hi]
theorem isort_congr (ht : TP le) {xs ys : List α} (h : SEq le xs ys) : isort le xs = isort le ys :=
  isort_eq ht (isort_srt ht xs) ((isort_seq ht xs).trans h)
theorem srt_isort (ht : TP le) {xs : List α} (h : Srt le xs) : isort le xs = xs := (isort_eq ht h (SEq.refl _)).symm
theorem isort_len (xs : List α) : (isort le xs).length = xs.length := (isort_perm xs).length_eq
theorem eq_of_len0 {xs : List α} (h : xs.length = 0) : xs = [] := List.length_eq_zero_iff.1 h

def Cmp (le : α → α → Bool) (cmp : α → α → Option Int) : Prop := ∀ x y, ∃ t, cmp x y = some t ∧ (t < 0 ↔ le y x = false)

structure InsF (d : α) (cmp : α → α → Option Int) (l0 : Nat → List α → Int → Int → Int → Option (List α)) (l1 : Nat → List α → Int → Int → Int → Int → Option (List α)) : Prop where
  e0 : ∀ k xs a b i, l0 (k + 1) xs a b i = if i < b then l1 k xs a b i i else some xs
  e1 : ∀ k xs a b i j, l1 (k + 1) xs a b i j = if j > a then (if 0 ≤ j then (if j < (xs.length : Int) then (if 0 ≤ (wrap64 (j - 1)) then (if (wrap64 (j - 1)) < (xs.length : Int) then
      ((cmp (xs.getD j.toNat d) (xs.getD (wrap64 (j - 1)).toNat d)).bind fun t => (if t < 0 then (l1 k ((xs.set j.toNat (xs.getD (wrap64 (j - 1)).toNat d)).set (wrap64 (j - 1)).toNat (xs.getD j.toNat d)) a b i (wrap64 (j - 1))) else (l0 k xs a b (wrap64 (i + 1))))) else none) else none) else none) else none) else (l0 k xs a b (wrap64 (i + 1)))
variable {l0 : Nat → List α → Int → Int → Int → Option (List α)} {l1 : Nat → List α → Int → Int → Int → Int → Option (List α)}
theorem ins_l1 (ht : TP le) (hcmp : Cmp le cmp) (hF : InsF d cmp l0 l1) {pre post r : List α} {a b i : Int} (ha : a = pre.length) (hi0 : 0 ≤ i) (hi1 : i < 1099511627776) (x : α) : ∀ (n : Nat) (S1 S2 : List α) (j : Int), S1.length = n → j = a + S1.length →
    (pre ++ S1 ++ x :: S2 ++ post).length < 1099511627776 → Srt le (S1 ++ S2) → (∀ z ∈ S2, le z x = false) →
    (∀ S', Srt le S' → SEq le S' (S1 ++ x :: S2) → Ev (fun k => l0 k (pre ++ S' ++ post) a b (i + 1)) r) →
    Ev (fun k => l1 k (pre ++ S1 ++ x :: S2 ++ post) a b i j) r
  | 0, S1, S2, j, hn, hj, hl, hs, hz, hk => by
    have := eq_of_len0 hn
    subst this
    refine Ev.step (fun k => by rw [hF.e1, if_neg (by simp at hj; omega), wr_ _ (by omega) (by omega)]) ?_
    have := hk (x :: S2) (List.pairwise_cons.2 ⟨fun z hz' => ht.of_not (hz z hz'), by simpa using hs⟩) (SEq.refl _)
    simpa using this
  | n + 1, S1, S2, j, hn, hj, hl, hs, hz, hk => by
    obtain ⟨S, y, rfl⟩ : ∃ S y, S1 = S ++ [y] := ⟨S1.dropLast, S1.getLast (by intro e; simp [e] at hn), (List.dropLast_concat_getLast _).symm⟩
    simp at hn hj
    obtain ⟨t, h1, h2⟩ := hcmp x y
    have hlen : ((pre ++ (S ++ [y]) ++ x :: S2 ++ post).length : Int) = pre.length + S.length + 1 + 1 + S2.length + post.length := by simp; omega
    have g1 : (pre ++ (S ++ [y]) ++ x :: S2 ++ post).getD j.toNat d = x := by
      have := gt_ (d := d) (pre ++ S ++ [y]) (S2 ++ post) x j (by simp; omega)
      simpa using this
    have g2 : (pre ++ (S ++ [y]) ++ x :: S2 ++ post).getD (j - 1).toNat d = y := by
      have := gt_ (d := d) (pre ++ S) (x :: S2 ++ post) y (j - 1) (by simp; omega)
      simpa using this
    have g3 : ((pre ++ (S ++ [y]) ++ x :: S2 ++ post).set j.toNat y).set (j - 1).toNat x = pre ++ S ++ x :: (y :: S2) ++ post := by
      have := swp'_ (pre ++ S) [] (S2 ++ post) y x (j - 1) j (by simp; omega) (by simp; omega)
      simpa using this
    refine Ev.step (f := fun k => if t < 0 then l1 k (pre ++ S ++ x :: (y :: S2) ++ post) a b i (j - 1) else l0 k (pre ++ (S ++ [y]) ++ x :: S2 ++ post) a b (i + 1)) (fun k => by
      rw [hF.e1, if_pos (by omega), if_pos (by omega), if_pos (by rw [hlen]; omega), wr_ (j - 1) (by omega) (by omega), wr_ (i + 1) (by omega) (by omega), if_pos (by omega), if_pos (by rw [hlen]; omega), g1, g2, h1, g3]
      rfl) ?_
    have hs' := List.pairwise_append.1 hs
    have hs1 := List.pairwise_append.1 hs'.1
    by_cases ht0 : t < 0
    · simp only [if_pos ht0]
      have hyx := h2.1 ht0
      refine ins_l1 ht hcmp hF ha hi0 hi1 x n S (y :: S2) (j - 1) hn (by omega) (by simp at hl ⊢; omega) (by simpa using hs) (fun z hz' => ?_) (fun S' h3 h4 => hk S' h3 (h4.trans ?_))
      · rcases List.mem_cons.1 hz' with rfl | hz'
        · exact hyx
        · exact hz z hz'
      · have h5 : SEq le ([y] ++ [x]) ([x] ++ [y]) := SEq.swap ht (fun p hp q hq => by simp at hp hq; subst hp; subst hq; exact hyx)
        have := SEq.append (SEq.append (SEq.refl S) h5.symm) (SEq.refl S2)
        simpa using this
    · simp only [if_neg ht0]
      have hyx : le y x = true := by
        cases h : le y x
        · exact absurd (h2.2 h) ht0
        · rfl
      have := hk (S ++ [y] ++ x :: S2) (by
        refine List.pairwise_append.2 ⟨hs'.1, List.pairwise_cons.2 ⟨fun z hz' => ht.of_not (hz z hz'), hs'.2.1⟩, fun p hp q hq => ?_⟩
        have hpy : le p y = true := by
          rcases List.mem_append.1 hp with hp | hp
          · exact hs1.2.2 p hp y (by simp)
          · simp at hp; subst hp; exact ht.refl _
        rcases List.mem_cons.1 hq with rfl | hq
        · exact ht.trans hpy hyx
        · exact hs'.2.2 p hp q hq) (SEq.refl _)
      simpa using this
theorem ins_l0 (ht : TP le) (hcmp : Cmp le cmp) (hF : InsF d cmp l0 l1) {pre post : List α} {a b : Int} (ha : a = pre.length) : ∀ (R S : List α) (i : Int), i = a + S.length → b = i + R.length →
    (pre ++ S ++ R ++ post).length < 1099511627776 → Srt le S → Ev (fun k => l0 k (pre ++ S ++ R ++ post) a b i) (pre ++ isort le (S ++ R) ++ post)
  | [], S, i, hi, hb, hl, hs => by
    refine Ev.step (f := fun _ => some (pre ++ isort le (S ++ []) ++ post)) (fun k => ?_) (Ev.now _)
    simp at hb
    rw [hF.e0, if_neg (by omega)]
    simp [srt_isort ht hs]
  | x :: R, S, i, hi, hb, hl, hs => by
    refine Ev.step (f := fun k => l1 k (pre ++ S ++ x :: R ++ post) a b i i) (fun k => by simp at hb; rw [hF.e0, if_pos (by omega)]) ?_
    have hl' := hl
    simp at hl'
    have h0 := ins_l1 ht hcmp hF (pre := pre) (post := R ++ post) (r := pre ++ isort le (S ++ x :: R) ++ post) (a := a) (b := b) (i := i) ha (by omega) (by omega) x S.length S [] i rfl hi (by simp; omega) (by simpa using hs) (by simp) (fun S' h1 h2 => ?_)
    · simpa using h0
    · have h3 := ins_l0 ht hcmp hF (pre := pre) (post := post) (a := a) (b := b) ha R S' (i + 1) (by
        have : S'.length = S.length + 1 := by
          have e := isort_eq ht h1 h2
          rw [e, isort_len]; simp
        omega) (by simp at hb; omega) (by
          have : S'.length = S.length + 1 := by
            have e := isort_eq ht h1 h2
            rw [e, isort_len]; simp
          simp; omega) h1
      have h4 : isort le (S' ++ R) = isort le (S ++ x :: R) := isort_congr ht (by simpa using SEq.append h2 (SEq.refl R))
      rw [h4] at h3
      simpa using h3
theorem ins_f (ht : TP le) (hcmp : Cmp le cmp) (hF : InsF d cmp l0 l1) {pre S post : List α} {a b : Int} (ha : a = pre.length) (hb : b = a + S.length) (hl : (pre ++ S ++ post).length < 1099511627776) :
    Ev (fun k => l0 k (pre ++ S ++ post) a b (wrap64 (a + 1))) (pre ++ isort le S ++ post) := by
  have hl' := hl
  simp at hl'
  rw [wr_ _ (by omega) (by omega)]
  cases S with
  | nil =>
    refine Ev.step (f := fun _ => some (pre ++ isort le [] ++ post)) (fun k => ?_) (Ev.now _)
    simp at hb
    rw [hF.e0, if_neg (by omega)]
    rfl
  | cons x R =>
    have := ins_l0 ht hcmp hF (pre := pre) (post := post) (a := a) (b := b) ha R [x] (a + 1) (by simp) (by simp at hb; omega) (by simp; simp at hl'; omega) (by simp)
    simpa using this

structure SwF (d : α) (l0 : Nat → List α → Int → Int → Int → Int → Option (List α)) : Prop where
  e0 : ∀ k xs a b n i, l0 (k + 1) xs a b n i = if i < n then (if 0 ≤ (wrap64 (b + i)) then (if (wrap64 (b + i)) < (xs.length : Int) then (if 0 ≤ (wrap64 (a + i)) then (if (wrap64 (a + i)) < (xs.length : Int) then
      (l0 k ((xs.set (wrap64 (a + i)).toNat (xs.getD (wrap64 (b + i)).toNat d)).set (wrap64 (b + i)).toNat (xs.getD (wrap64 (a + i)).toNat d)) a b n (wrap64 (i + 1))) else none) else none) else none) else none) else some xs
variable {s0 : Nat → List α → Int → Int → Int → Int → Option (List α)}
theorem sw_l0 (hF : SwF d s0) {a b n : Int} (ha0 : 0 ≤ a) (hb0 : 0 ≤ b) : ∀ (X Y pre mid post : List α) (i : Int), X.length = Y.length → 0 ≤ i → a + i = pre.length → b + i = pre.length + X.length + mid.length → n = i + X.length →
    (pre ++ X ++ mid ++ Y ++ post).length < 1099511627776 → Ev (fun k => s0 k (pre ++ X ++ mid ++ Y ++ post) a b n i) (pre ++ Y ++ mid ++ X ++ post)
  | [], Y, pre, mid, post, i, hxy, hi, ha, hb, hn, hl => by
    have : Y = [] := eq_of_len0 hxy.symm
    subst this
    refine Ev.step (f := fun _ => some (pre ++ [] ++ mid ++ [] ++ post)) (fun k => ?_) (Ev.now _)
    simp at hn
    rw [hF.e0, if_neg (by omega)]
  | x :: X, [], pre, mid, post, i, hxy, hi, ha, hb, hn, hl => by simp at hxy
  | x :: X, y :: Y, pre, mid, post, i, hxy, hi, ha, hb, hn, hl => by
    have hlen : ((pre ++ x :: X ++ mid ++ y :: Y ++ post).length : Int) = pre.length + X.length + 1 + mid.length + Y.length + 1 + post.length := by simp; omega
    simp at hxy hb hn
    have g1 : (pre ++ x :: X ++ mid ++ y :: Y ++ post).getD (a + i).toNat d = x := by
      have := gt_ (d := d) pre (X ++ mid ++ y :: Y ++ post) x (a + i) (by omega)
      simpa using this
    have g2 : (pre ++ x :: X ++ mid ++ y :: Y ++ post).getD (b + i).toNat d = y := by
      have := gt_ (d := d) (pre ++ x :: X ++ mid) (Y ++ post) y (b + i) (by simp; omega)
      simpa using this
    have g3 : ((pre ++ x :: X ++ mid ++ y :: Y ++ post).set (a + i).toNat y).set (b + i).toNat x = (pre ++ [y]) ++ X ++ (mid ++ [x]) ++ Y ++ post := by
      have := swp_ pre (X ++ mid) (Y ++ post) x y (a + i) (b + i) (by omega) (by simp; omega)
      simpa using this
    refine Ev.step (f := fun k => s0 k ((pre ++ [y]) ++ X ++ (mid ++ [x]) ++ Y ++ post) a b n (i + 1)) (fun k => by
      have hl2 := hlen
      rw [hF.e0, if_pos (by omega), wr_ (b + i) (by omega) (by omega), wr_ (a + i) (by omega) (by omega), wr_ (i + 1) (by omega) (by omega), if_pos (by omega), if_pos (by rw [hlen]; omega), if_pos (by omega), if_pos (by rw [hlen]; omega), g1, g2, g3]) ?_
    have := sw_l0 hF (a := a) (b := b) (n := n) ha0 hb0 X Y (pre ++ [y]) (mid ++ [x]) post (i + 1) hxy (by omega) (by simp; omega) (by simp; omega) (by omega) (by simp at hl ⊢; omega)
    simpa using this

structure RoF (s0 : Nat → List α → Int → Int → Int → Int → Option (List α)) (l0 : Nat → List α → Int → Int → Int → Option (List α)) : Prop where
  e0 : ∀ k xs m i j, l0 (k + 1) xs m i j = if i = j then ((s0 k xs (wrap64 (m - i)) m i 0).bind fun t => some t) else (if i > j then ((s0 k xs (wrap64 (m - i)) m j 0).bind fun t => (l0 k t m (wrap64 (i - j)) j)) else
      ((s0 k xs (wrap64 (m - i)) (wrap64 ((wrap64 (m + j)) - i)) i 0).bind fun t => (l0 k t m i (wrap64 (j - i)))))
variable {r0 : Nat → List α → Int → Int → Int → Option (List α)}
theorem ro_l0 (hS : SwF d s0) (hF : RoF s0 r0) {m : Int} : ∀ (n : Nat) (A B pre post : List α) (i j : Int), A.length + B.length ≤ n → 0 < A.length → 0 < B.length → m = pre.length + A.length → i = A.length → j = B.length →
    (pre ++ A ++ B ++ post).length < 1099511627776 → Ev (fun k => r0 k (pre ++ A ++ B ++ post) m i j) (pre ++ B ++ A ++ post)
  | 0, A, B, pre, post, i, j, hn, hA, hB, hm, hi, hj, hl => by omega
  | n + 1, A, B, pre, post, i, j, hn, hA, hB, hm, hi, hj, hl => by
    have hlen : ((pre ++ A ++ B ++ post).length : Int) = pre.length + A.length + B.length + post.length := by simp; omega
    rcases Nat.lt_trichotomy A.length B.length with h | h | h
    · -- B is longer: its last part comes to the front
      obtain ⟨B1, B2, rfl, h2⟩ : ∃ B1 B2, B = B1 ++ B2 ∧ B2.length = A.length := ⟨B.take (B.length - A.length), B.drop (B.length - A.length), (List.take_append_drop _ _).symm, by simp; omega⟩
      simp at hj hlen hn h hl
      refine Ev.step (f := fun k => (s0 k (pre ++ A ++ (B1 ++ B2) ++ post) (m - i) (m + j - i) i 0).bind fun t => r0 k t m i (j - i)) (fun k => by
        rw [hF.e0, if_neg (by omega), if_neg (by omega), wr_ (m - i) (by omega) (by omega), wr_ (m + j) (by omega) (by omega), wr_ (m + j - i) (by omega) (by omega), wr_ (j - i) (by omega) (by omega)]) ?_
      have hs := sw_l0 hS (a := m - i) (b := m + j - i) (n := i) (by omega) (by omega) A B2 pre B1 post 0 h2.symm (by omega) (by omega) (by omega) (by omega) (by simp; omega)
      have hs' : Ev (fun k => s0 k (pre ++ A ++ (B1 ++ B2) ++ post) (m - i) (m + j - i) i 0) (pre ++ B2 ++ B1 ++ (A ++ post)) := by simpa using hs
      refine Ev.bind hs' ?_
      have := ro_l0 hS hF (m := m) n B2 B1 pre (A ++ post) i (j - i) (by omega) (by omega) (by omega) (by omega) (by omega) (by omega) (by simp; omega)
      simpa using this
    · refine Ev.step (f := fun k => (s0 k (pre ++ A ++ B ++ post) (m - i) m i 0).bind fun t => some t) (fun k => by
        rw [hF.e0, if_pos (by omega), wr_ (m - i) (by omega) (by omega)]) ?_
      have hs := sw_l0 hS (a := m - i) (b := m) (n := i) (by omega) (by omega) A B pre [] post 0 h (by omega) (by omega) (by simp; omega) (by omega) (by simpa using hl)
      refine Ev.bind (a := pre ++ B ++ A ++ post) (by simpa using hs) (Ev.now _)
    · obtain ⟨A1, A2, rfl, h2⟩ : ∃ A1 A2, A = A1 ++ A2 ∧ A1.length = B.length := ⟨A.take B.length, A.drop B.length, (List.take_append_drop _ _).symm, by simp; omega⟩
      simp at hi hlen hn h hl hm
      refine Ev.step (f := fun k => (s0 k (pre ++ (A1 ++ A2) ++ B ++ post) (m - i) m j 0).bind fun t => r0 k t m (i - j) j) (fun k => by
        rw [hF.e0, if_neg (by omega), if_pos (by omega), wr_ (m - i) (by omega) (by omega), wr_ (i - j) (by omega) (by omega)]) ?_
      have hs := sw_l0 hS (a := m - i) (b := m) (n := j) (by omega) (by omega) A1 B pre A2 post 0 h2 (by omega) (by omega) (by omega) (by omega) (by simp; omega)
      have hs' : Ev (fun k => s0 k (pre ++ (A1 ++ A2) ++ B ++ post) (m - i) m j 0) ((pre ++ B) ++ A2 ++ A1 ++ post) := by simpa using hs
      refine Ev.bind hs' ?_
      have := ro_l0 hS hF (m := m) n A2 A1 (pre ++ B) post (i - j) j (by omega) (by omega) (by omega) (by simp; omega) (by omega) (by omega) (by simp; omega)
      simpa using this
end SortB
section SortC
variable {α : Type} {d : α} {le : α → α → Bool} {cmp : α → α → Option Int}
abbrev hlf (x y : Int) : Int := wrap64 ((IntKind.u64.wrap (wrap64 (x + y))) / 2)
structure SyF (d : α) (cmp : α → α → Option Int) (r0 : Nat → List α → Int → Int → Int → Option (List α)) (l0 : Nat → List α → Int → Int → Int → Option (List α)) (l1 : Nat → List α → Int → Int → Option (List α)) (l2 : Nat → List α → Int → Int → Int → Option (List α)) (l3 : Nat → List α → Int → Int → Option (List α))
    (j4 : Nat → List α → Int → Int → Int → Int → Int → Int → Int → Option (List α)) (l4 : Nat → List α → Int → Int → Int → Int → Int → Int → Int → Int → Option (List α)) (j6 : Nat → List α → Int → Int → Int → Int → Int → Int → Bool → Option (List α)) (j7 : Nat → List α → Int → Int → Int → Int → Int → Option (List α)) (j8 : Nat → List α → Int → Int → Int → Int → Int → Bool → Option (List α))
    (f : Nat → List α → Int → Int → Int → Option (List α)) : Prop where
  ef : ∀ k xs a m b, f (k + 1) xs a m b = if wrap64 (m - a) = 1 then l0 k xs a m b else (if wrap64 (b - m) = 1 then l2 k xs m a m else (if m > hlf a b then j4 k xs a m b (hlf a b) (wrap64 (hlf a b + m)) (wrap64 (wrap64 (hlf a b + m) - b)) (hlf a b) else j4 k xs a m b (hlf a b) (wrap64 (hlf a b + m)) a m))
  e0 : ∀ k xs a i j, l0 (k + 1) xs a i j = if i < j then (if 0 ≤ hlf i j then (if hlf i j < (xs.length : Int) then (if 0 ≤ a then (if a < (xs.length : Int) then ((cmp (xs.getD (hlf i j).toNat d) (xs.getD a.toNat d)).bind fun t => (if t < 0 then l0 k xs a (wrap64 (hlf i j + 1)) j else l0 k xs a i (hlf i j))) else none) else none) else none) else none) else l1 k xs i a
  e1 : ∀ k xs i q, l1 (k + 1) xs i q = if q < wrap64 (i - 1) then (if 0 ≤ wrap64 (q + 1) then (if wrap64 (q + 1) < (xs.length : Int) then (if 0 ≤ q then (if q < (xs.length : Int) then l1 k ((xs.set q.toNat (xs.getD (wrap64 (q + 1)).toNat d)).set (wrap64 (q + 1)).toNat (xs.getD q.toNat d)) i (wrap64 (q + 1)) else none) else none) else none) else none) else some xs
  e2 : ∀ k xs m i j, l2 (k + 1) xs m i j = if i < j then (if 0 ≤ m then (if m < (xs.length : Int) then (if 0 ≤ hlf i j then (if hlf i j < (xs.length : Int) then ((cmp (xs.getD m.toNat d) (xs.getD (hlf i j).toNat d)).bind fun t => (if t < 0 then l2 k xs m i (hlf i j) else l2 k xs m (wrap64 (hlf i j + 1)) j)) else none) else none) else none) else none) else l3 k xs i m
  e3 : ∀ k xs i q, l3 (k + 1) xs i q = if q > i then (if 0 ≤ wrap64 (q - 1) then (if wrap64 (q - 1) < (xs.length : Int) then (if 0 ≤ q then (if q < (xs.length : Int) then l3 k ((xs.set q.toNat (xs.getD (wrap64 (q - 1)).toNat d)).set (wrap64 (q - 1)).toNat (xs.getD q.toNat d)) i (wrap64 (q - 1)) else none) else none) else none) else none) else some xs
  ej4 : ∀ k xs a m b mid n st r, j4 (k + 1) xs a m b mid n st r = l4 k xs a m b mid n st r (wrap64 (n - 1))
  e4 : ∀ k xs a m b mid n st r p, l4 (k + 1) xs a m b mid n st r p = if st < r then (if 0 ≤ wrap64 (p - hlf st r) then (if wrap64 (p - hlf st r) < (xs.length : Int) then (if 0 ≤ hlf st r then (if hlf st r < (xs.length : Int) then ((cmp (xs.getD (wrap64 (p - hlf st r)).toNat d) (xs.getD (hlf st r).toNat d)).bind fun t => (if t < 0 then l4 k xs a m b mid n st (hlf st r) p else l4 k xs a m b mid n (wrap64 (hlf st r + 1)) r p)) else none) else none) else none) else none)
    else (if st < m then j6 k xs a m b mid st (wrap64 (n - st)) (decide (m < wrap64 (n - st))) else j6 k xs a m b mid st (wrap64 (n - st)) false)
  ej6 : ∀ k xs a m b mid st en c, j6 (k + 1) xs a m b mid st en c = if c = true then ((r0 k xs m (wrap64 (m - st)) (wrap64 (en - m))).bind fun t => j7 k t a b mid st en) else j7 k xs a b mid st en
  ej7 : ∀ k xs a b mid st en, j7 (k + 1) xs a b mid st en = if a < st then j8 k xs a b mid st en (decide (st < mid)) else j8 k xs a b mid st en false
  ej8 : ∀ k xs a b mid st en c, j8 (k + 1) xs a b mid st en c = if c = true then ((f k xs a st mid).bind fun t => (if mid < en then (if en < b then ((f k t mid en b).bind fun u => some u) else some t) else some t)) else (if mid < en then (if en < b then ((f k xs mid en b).bind fun u => some u) else some xs) else some xs)
variable {s0 : Nat → List α → Int → Int → Int → Int → Option (List α)} {r0 : Nat → List α → Int → Int → Int → Option (List α)} {l0 : Nat → List α → Int → Int → Int → Option (List α)} {l1 : Nat → List α → Int → Int → Option (List α)} {l2 : Nat → List α → Int → Int → Int → Option (List α)} {l3 : Nat → List α → Int → Int → Option (List α)}
    {j4 : Nat → List α → Int → Int → Int → Int → Int → Int → Int → Option (List α)} {l4 : Nat → List α → Int → Int → Int → Int → Int → Int → Int → Int → Option (List α)} {j6 : Nat → List α → Int → Int → Int → Int → Int → Int → Bool → Option (List α)} {j7 : Nat → List α → Int → Int → Int → Int → Int → Option (List α)} {j8 : Nat → List α → Int → Int → Int → Int → Int → Bool → Option (List α)}
    {f : Nat → List α → Int → Int → Int → Option (List α)}
theorem hlf_ (x y : Int) (hx : 0 ≤ x) (hy : 0 ≤ y) (h : x + y < 9223372036854775808) : hlf x y = (x + y) / 2 := half_ x y hx hy h
theorem sy_l1 (hF : SyF d cmp r0 l0 l1 l2 l3 j4 l4 j6 j7 j8 f) (x : α) {i : Int} : ∀ (R pre rest : List α) (q : Int), q = pre.length → i = q + R.length + 1 → (pre ++ x :: (R ++ rest)).length < 1099511627776 →
    Ev (fun k => l1 k (pre ++ x :: (R ++ rest)) i q) (pre ++ R ++ x :: rest)
  | [], pre, rest, q, hq, hi, hl => by
    refine Ev.step (f := fun _ => some (pre ++ [] ++ x :: rest)) (fun k => ?_) (Ev.now _)
    simp at hi hl
    rw [hF.e1, wr_ _ (by omega) (by omega), if_neg (by omega)]
    simp
  | y :: R, pre, rest, q, hq, hi, hl => by
    have hlen : ((pre ++ x :: (y :: R ++ rest)).length : Int) = pre.length + R.length + 2 + rest.length := by simp; omega
    simp at hi hl
    have g1 : (pre ++ x :: (y :: R ++ rest)).getD q.toNat d = x := gt_ (d := d) pre (y :: R ++ rest) x q hq
    have g2 : (pre ++ x :: (y :: R ++ rest)).getD (q + 1).toNat d = y := by
      have := gt_ (d := d) (pre ++ [x]) (R ++ rest) y (q + 1) (by simp; omega)
      simpa using this
    have g3 : ((pre ++ x :: (y :: R ++ rest)).set q.toNat y).set (q + 1).toNat x = (pre ++ [y]) ++ x :: (R ++ rest) := by
      have := swp_ pre [] (R ++ rest) x y q (q + 1) hq (by simp; omega)
      simpa using this
    refine Ev.step (f := fun k => l1 k ((pre ++ [y]) ++ x :: (R ++ rest)) i (q + 1)) (fun k => by
      rw [hF.e1, wr_ (i - 1) (by omega) (by omega), if_pos (by omega), wr_ (q + 1) (by omega) (by omega), if_pos (by omega), if_pos (by rw [hlen]; omega), if_pos (by omega), if_pos (by rw [hlen]; omega), g1, g2, g3]) ?_
    have := sy_l1 hF x (i := i) R (pre ++ [y]) rest (q + 1) (by simp; omega) (by omega) (by simp; omega)
    simpa using this
theorem sy_l3 (hF : SyF d cmp r0 l0 l1 l2 l3 j4 l4 j6 j7 j8 f) (x : α) {i : Int} {pre : List α} (hi : i = pre.length) : ∀ (n : Nat) (R rest : List α) (q : Int), R.length = n → q = i + R.length → (pre ++ R ++ x :: rest).length < 1099511627776 →
    Ev (fun k => l3 k (pre ++ R ++ x :: rest) i q) (pre ++ x :: (R ++ rest))
  | 0, R, rest, q, hn, hq, hl => by
    have := eq_of_len0 hn
    subst this
    refine Ev.step (f := fun _ => some (pre ++ x :: ([] ++ rest))) (fun k => ?_) (Ev.now _)
    simp at hq
    rw [hF.e3, if_neg (by omega)]
    simp
  | n + 1, R, rest, q, hn, hq, hl => by
    obtain ⟨S, y, rfl⟩ : ∃ S y, R = S ++ [y] := ⟨R.dropLast, R.getLast (by intro e; simp [e] at hn), (List.dropLast_concat_getLast _).symm⟩
    have hlen : ((pre ++ (S ++ [y]) ++ x :: rest).length : Int) = pre.length + S.length + 2 + rest.length := by simp; omega
    simp at hn hq hl
    have g1 : (pre ++ (S ++ [y]) ++ x :: rest).getD q.toNat d = x := gt_ (d := d) (pre ++ (S ++ [y])) rest x q (by simp; omega)
    have g2 : (pre ++ (S ++ [y]) ++ x :: rest).getD (q - 1).toNat d = y := by
      have := gt_ (d := d) (pre ++ S) (x :: rest) y (q - 1) (by simp; omega)
      simpa using this
    have g3 : ((pre ++ (S ++ [y]) ++ x :: rest).set q.toNat y).set (q - 1).toNat x = pre ++ S ++ x :: (y :: rest) := by
      have := swp'_ (pre ++ S) [] rest y x (q - 1) q (by simp; omega) (by simp; omega)
      simpa using this
    refine Ev.step (f := fun k => l3 k (pre ++ S ++ x :: (y :: rest)) i (q - 1)) (fun k => by
      rw [hF.e3, if_pos (by omega), wr_ (q - 1) (by omega) (by omega), if_pos (by omega), if_pos (by rw [hlen]; omega), if_pos (by omega), if_pos (by rw [hlen]; omega), g1, g2, g3]) ?_
    have := sy_l3 hF x hi n S (y :: rest) (q - 1) hn (by omega) (by simp; omega)
    simpa using this
theorem sy_l0 (ht : TP le) (hcmp : Cmp le cmp) (hF : SyF d cmp r0 l0 l1 l2 l3 j4 l4 j6 j7 j8 f) {pre B post r : List α} {x : α} {a : Int} (ha : a = pre.length) (hl : (pre ++ x :: (B ++ post)).length < 1099511627776) (hB : Srt le B)
    (hk : ∀ C1 C2, B = C1 ++ C2 → (∀ z ∈ C1, le x z = false) → (∀ z ∈ C2, le x z = true) → Ev (fun k => l1 k (pre ++ x :: (B ++ post)) (a + 1 + C1.length) a) r) :
    ∀ (n : Nat) (B1 M B2 : List α) (i j : Int), M.length ≤ n → B = B1 ++ M ++ B2 → (∀ z ∈ B1, le x z = false) → (∀ z ∈ B2, le x z = true) → i = a + 1 + B1.length → j = i + M.length → Ev (fun k => l0 k (pre ++ x :: (B ++ post)) a i j) r
  | n, B1, [], B2, i, j, hn, hb, h1, h2, hi, hj => by
    refine Ev.step (f := fun k => l1 k (pre ++ x :: (B ++ post)) i a) (fun k => ?_) ?_
    · simp at hj
      rw [hF.e0, if_neg (by omega)]
    · have := hk B1 B2 (by simpa using hb) h1 h2
      rw [hi]; exact this
  | 0, B1, m :: M, B2, i, j, hn, hb, h1, h2, hi, hj => by simp at hn
  | n + 1, B1, m :: M, B2, i, j, hn, hb, h1, h2, hi, hj => by
    have hlen : ((pre ++ x :: (B ++ post)).length : Int) = pre.length + B1.length + (M.length + 1) + B2.length + 1 + post.length := by rw [hb]; simp; omega
    simp only [List.length_cons] at hn hj
    have hh : hlf i j = (i + j) / 2 := hlf_ i j (by omega) (by omega) (by omega)
    obtain ⟨M1, z, M2, hM, hM1⟩ : ∃ M1 z M2, m :: M = M1 ++ z :: M2 ∧ (M1.length : Int) = (i + j) / 2 - i := by
      have hlt : ((i + j) / 2 - i).toNat < (m :: M).length := by simp; omega
      refine ⟨(m :: M).take ((i + j) / 2 - i).toNat, (m :: M)[((i + j) / 2 - i).toNat], (m :: M).drop (((i + j) / 2 - i).toNat + 1), ?_, ?_⟩
      · rw [← List.drop_eq_getElem_cons hlt, List.take_append_drop]
      · rw [List.length_take]; simp; omega
    have hMl : (M1.length : Int) + 1 + M2.length = M.length + 1 := by have := congrArg List.length hM; simp at this; omega
    obtain ⟨t, c1, c2⟩ := hcmp z x
    have g1 : (pre ++ x :: (B ++ post)).getD ((i + j) / 2).toNat d = z := by
      have := gt_ (d := d) (pre ++ x :: (B1 ++ M1)) (M2 ++ B2 ++ post) z ((i + j) / 2) (by simp; omega)
      rw [hb, hM]; simpa using this
    have g2 : (pre ++ x :: (B ++ post)).getD a.toNat d = x := gt_ (d := d) pre (B ++ post) x a ha
    refine Ev.step (f := fun k => if t < 0 then l0 k (pre ++ x :: (B ++ post)) a ((i + j) / 2 + 1) j else l0 k (pre ++ x :: (B ++ post)) a i ((i + j) / 2)) (fun k => by
      rw [hF.e0, if_pos (by omega), hh, if_pos (by omega), if_pos (by rw [hlen]; omega), if_pos (by omega), if_pos (by rw [hlen]; omega), g1, g2, c1, wr_ ((i + j) / 2 + 1) (by omega) (by omega)]
      rfl) ?_
    have hs : Srt le (B1 ++ (M1 ++ z :: M2) ++ B2) := by rw [← hM, ← hb]; exact hB
    have hs1 := List.pairwise_append.1 hs
    have hs2 := List.pairwise_append.1 (List.pairwise_append.1 hs1.1).2.1
    have hs3 := List.pairwise_cons.1 hs2.2.1
    by_cases ht0 : t < 0
    · simp only [if_pos ht0]
      have hxz := c2.1 ht0
      refine sy_l0 ht hcmp hF ha hl hB hk n (B1 ++ (M1 ++ [z])) M2 B2 _ _ (by omega) (by rw [hb, hM]; simp) (fun u hu => ?_) h2 (by simp; omega) (by omega)
      rcases List.mem_append.1 hu with hu | hu
      · exact h1 u hu
      · have huz : le u z = true := by
          rcases List.mem_append.1 hu with hu | hu
          · exact hs2.2.2 u hu z (by simp)
          · simp at hu; subst hu; exact ht.refl _
        cases hxu : le x u
        · rfl
        · rw [ht.trans hxu huz] at hxz; cases hxz
    · simp only [if_neg ht0]
      have hxz : le x z = true := by
        cases h : le x z
        · exact absurd (c2.2 h) ht0
        · rfl
      refine sy_l0 ht hcmp hF ha hl hB hk n B1 M1 (z :: M2 ++ B2) _ _ (by omega) (by rw [hb, hM]; simp) h1 (fun u hu => ?_) hi (by omega)
      rcases List.mem_append.1 hu with hu | hu
      · rcases List.mem_cons.1 hu with rfl | hu
        · exact hxz
        · exact ht.trans hxz (hs3.1 u hu)
      · exact h2 u hu
theorem sy_l2 (ht : TP le) (hcmp : Cmp le cmp) (hF : SyF d cmp r0 l0 l1 l2 l3 j4 l4 j6 j7 j8 f) {pre B post r : List α} {x : α} {a m : Int} (ha : a = pre.length) (hm : m = a + B.length) (hl : (pre ++ B ++ x :: post).length < 1099511627776) (hB : Srt le B)
    (hk : ∀ C1 C2, B = C1 ++ C2 → (∀ z ∈ C1, le z x = true) → (∀ z ∈ C2, le z x = false) → Ev (fun k => l3 k (pre ++ B ++ x :: post) (a + C1.length) m) r) :
    ∀ (n : Nat) (B1 M B2 : List α) (i j : Int), M.length ≤ n → B = B1 ++ M ++ B2 → (∀ z ∈ B1, le z x = true) → (∀ z ∈ B2, le z x = false) → i = a + B1.length → j = i + M.length → Ev (fun k => l2 k (pre ++ B ++ x :: post) m i j) r
  | n, B1, [], B2, i, j, hn, hb, h1, h2, hi, hj => by
    refine Ev.step (f := fun k => l3 k (pre ++ B ++ x :: post) i m) (fun k => ?_) ?_
    · simp at hj
      rw [hF.e2, if_neg (by omega)]
    · have := hk B1 B2 (by simpa using hb) h1 h2
      rw [hi]; exact this
  | 0, B1, m' :: M, B2, i, j, hn, hb, h1, h2, hi, hj => by simp at hn
  | n + 1, B1, m' :: M, B2, i, j, hn, hb, h1, h2, hi, hj => by
    have hlen : ((pre ++ B ++ x :: post).length : Int) = pre.length + B1.length + (M.length + 1) + B2.length + 1 + post.length := by rw [hb]; simp; omega
    have hBl : (B.length : Int) = B1.length + (M.length + 1) + B2.length := by rw [hb]; simp; omega
    simp only [List.length_cons] at hn hj
    have hh : hlf i j = (i + j) / 2 := hlf_ i j (by omega) (by omega) (by omega)
    obtain ⟨M1, z, M2, hM, hM1⟩ : ∃ M1 z M2, m' :: M = M1 ++ z :: M2 ∧ (M1.length : Int) = (i + j) / 2 - i := by
      have hlt : ((i + j) / 2 - i).toNat < (m' :: M).length := by simp; omega
      refine ⟨(m' :: M).take ((i + j) / 2 - i).toNat, (m' :: M)[((i + j) / 2 - i).toNat], (m' :: M).drop (((i + j) / 2 - i).toNat + 1), ?_, ?_⟩
      · rw [← List.drop_eq_getElem_cons hlt, List.take_append_drop]
      · rw [List.length_take]; simp; omega
    have hMl : (M1.length : Int) + 1 + M2.length = M.length + 1 := by have := congrArg List.length hM; simp at this; omega
    obtain ⟨t, c1, c2⟩ := hcmp x z
    have g1 : (pre ++ B ++ x :: post).getD ((i + j) / 2).toNat d = z := by
      have := gt_ (d := d) (pre ++ (B1 ++ M1)) (M2 ++ B2 ++ x :: post) z ((i + j) / 2) (by simp; omega)
      rw [hb, hM]; simpa using this
    have g2 : (pre ++ B ++ x :: post).getD m.toNat d = x := gt_ (d := d) (pre ++ B) post x m (by simp; omega)
    refine Ev.step (f := fun k => if t < 0 then l2 k (pre ++ B ++ x :: post) m i ((i + j) / 2) else l2 k (pre ++ B ++ x :: post) m ((i + j) / 2 + 1) j) (fun k => by
      rw [hF.e2, if_pos (by omega), hh, if_pos (by omega), if_pos (by rw [hlen]; omega), if_pos (by omega), if_pos (by rw [hlen]; omega), g1, g2, c1, wr_ ((i + j) / 2 + 1) (by omega) (by omega)]
      rfl) ?_
    have hs : Srt le (B1 ++ (M1 ++ z :: M2) ++ B2) := by rw [← hM, ← hb]; exact hB
    have hs1 := List.pairwise_append.1 hs
    have hs2 := List.pairwise_append.1 (List.pairwise_append.1 hs1.1).2.1
    have hs3 := List.pairwise_cons.1 hs2.2.1
    by_cases ht0 : t < 0
    · simp only [if_pos ht0]
      have hxz := c2.1 ht0
      refine sy_l2 ht hcmp hF ha hm hl hB hk n B1 M1 (z :: M2 ++ B2) _ _ (by omega) (by rw [hb, hM]; simp) h1 (fun u hu => ?_) hi (by omega)
      rcases List.mem_append.1 hu with hu | hu
      · rcases List.mem_cons.1 hu with rfl | hu
        · exact hxz
        · cases hux : le u x
          · rfl
          · rw [ht.trans (hs3.1 u hu) hux] at hxz; cases hxz
      · exact h2 u hu
    · simp only [if_neg ht0]
      have hxz : le z x = true := by
        cases h : le z x
        · exact absurd (c2.2 h) ht0
        · rfl
      refine sy_l2 ht hcmp hF ha hm hl hB hk n (B1 ++ (M1 ++ [z])) M2 B2 _ _ (by omega) (by rw [hb, hM]; simp) (fun u hu => ?_) h2 (by simp; omega) (by omega)
      rcases List.mem_append.1 hu with hu | hu
      · exact h1 u hu
      · rcases List.mem_append.1 hu with hu | hu
        · exact ht.trans (hs2.2.2 u hu z (by simp)) hxz
        · simp at hu; subst hu; exact hxz
end SortC
section SortD
variable {α : Type} {d : α} {le : α → α → Bool} {cmp : α → α → Option Int}
variable {s0 : Nat → List α → Int → Int → Int → Int → Option (List α)} {r0 : Nat → List α → Int → Int → Int → Option (List α)} {l0 : Nat → List α → Int → Int → Int → Option (List α)} {l1 : Nat → List α → Int → Int → Option (List α)} {l2 : Nat → List α → Int → Int → Int → Option (List α)} {l3 : Nat → List α → Int → Int → Option (List α)}
    {j4 : Nat → List α → Int → Int → Int → Int → Int → Int → Int → Option (List α)} {l4 : Nat → List α → Int → Int → Int → Int → Int → Int → Int → Int → Option (List α)} {j6 : Nat → List α → Int → Int → Int → Int → Int → Int → Bool → Option (List α)} {j7 : Nat → List α → Int → Int → Int → Int → Int → Option (List α)} {j8 : Nat → List α → Int → Int → Int → Int → Int → Bool → Option (List α)}
    {f : Nat → List α → Int → Int → Int → Option (List α)}
theorem sy_l4 (hcmp : Cmp le cmp) (hF : SyF d cmp r0 l0 l1 l2 l3 j4 l4 j6 j7 j8 f) {xs r : List α} {a m b mid nn p s1 s2 : Int} (hl : xs.length < 1099511627776) (h0 : 0 ≤ s1) (h2 : s2 ≤ xs.length)
    (hp : ∀ c, s1 ≤ c → c < s2 → 0 ≤ p - c ∧ p - c < xs.length)
    (hmono : ∀ c e, s1 ≤ c → c ≤ e → e < s2 → le (xs.getD c.toNat d) (xs.getD (p - c).toNat d) = false → le (xs.getD e.toNat d) (xs.getD (p - e).toNat d) = false)
    (hk : ∀ st, s1 ≤ st → st ≤ s2 → (s1 < st → le (xs.getD (st - 1).toNat d) (xs.getD (p - (st - 1)).toNat d) = true) → (st < s2 → le (xs.getD st.toNat d) (xs.getD (p - st).toNat d) = false) →
      Ev (fun k => if st < m then j6 k xs a m b mid st (wrap64 (nn - st)) (decide (m < wrap64 (nn - st))) else j6 k xs a m b mid st (wrap64 (nn - st)) false) r) :
    ∀ (n : Nat) (st e : Int), s1 ≤ st → st ≤ e → e ≤ s2 → (e - st).toNat ≤ n → (s1 < st → le (xs.getD (st - 1).toNat d) (xs.getD (p - (st - 1)).toNat d) = true) → (e < s2 → le (xs.getD e.toNat d) (xs.getD (p - e).toNat d) = false) →
    Ev (fun k => l4 k xs a m b mid nn st e p) r := by
  intro n
  induction n with
  | zero =>
    intro st e q1 q2 q3 q4 q5 q6
    have : st = e := by omega
    subst this
    exact Ev.step (fun k => by rw [hF.e4, if_neg (by omega)]) (hk st q1 q3 q5 q6)
  | succ n ih =>
    intro st e q1 q2 q3 q4 q5 q6
    by_cases hse : st = e
    · subst hse
      exact Ev.step (fun k => by rw [hF.e4, if_neg (by omega)]) (hk st q1 q3 q5 q6)
    have hh : hlf st e = (st + e) / 2 := hlf_ st e (by omega) (by omega) (by omega)
    obtain ⟨c, hc⟩ : ∃ c, (st + e) / 2 = c := ⟨_, rfl⟩
    have hc1 : st ≤ c := by omega
    have hc2 : c < e := by omega
    have hpc := hp c (by omega) (by omega)
    obtain ⟨t, c1, c2⟩ := hcmp (xs.getD (p - c).toNat d) (xs.getD c.toNat d)
    refine Ev.step (f := fun k => if t < 0 then l4 k xs a m b mid nn st c p else l4 k xs a m b mid nn (c + 1) e p) (fun k => by
      rw [hF.e4, if_pos (by omega), hh, hc, wr_ (p - c) (by omega) (by omega), if_pos (by omega), if_pos (by omega), if_pos (by omega), if_pos (by omega), c1, wr_ (c + 1) (by omega) (by omega)]
      rfl) ?_
    by_cases ht0 : t < 0
    · simp only [if_pos ht0]
      exact ih st c q1 hc1 (by omega) (by omega) q5 (fun _ => c2.1 ht0)
    · simp only [if_neg ht0]
      refine ih (c + 1) e (by omega) (by omega) q3 (by omega) (fun _ => ?_) q6
      rw [show c + 1 - 1 = c by omega]
      cases h : le (xs.getD c.toNat d) (xs.getD (p - c).toNat d)
      · exact absurd (c2.2 h) ht0
      · rfl
theorem gA_ (pre A rest : List α) (c : Int) (i : Nat) (h : i < A.length) (hc : c = pre.length + i) : (pre ++ A ++ rest).getD c.toNat d = A[i] := by
  subst hc
  rw [List.getD_eq_getElem?_getD, show ((pre.length : Int) + (i : Int)).toNat = pre.length + i by omega, List.append_assoc, List.getElem?_append_right (by omega), show pre.length + i - pre.length = i by omega, List.getElem?_append_left h, List.getElem?_eq_getElem h]
  rfl
theorem srt_get {A : List α} (h : Srt le A) (ht : TP le) {i j : Nat} (hij : i ≤ j) (hj : j < A.length) : le (A[i]'(by omega)) A[j] = true := by
  rcases Nat.lt_or_eq_of_le hij with h1 | rfl
  · exact (List.pairwise_iff_getElem.1 h) i j (by omega) hj h1
  · exact ht.refl _
theorem sy_f (ht : TP le) (hcmp : Cmp le cmp) (hS : SwF d s0) (hR : RoF s0 r0) (hF : SyF d cmp r0 l0 l1 l2 l3 j4 l4 j6 j7 j8 f) : ∀ (n : Nat) (A B pre post : List α) (a m b : Int), A.length + B.length ≤ n → 0 < A.length → 0 < B.length → a = pre.length → m = a + A.length → b = m + B.length →
    (pre ++ A ++ B ++ post).length < 1099511627776 → Srt le A → Srt le B → Ev (fun k => f k (pre ++ A ++ B ++ post) a m b) (pre ++ isort le (A ++ B) ++ post) := by
  intro n
  induction n with
  | zero => intro A B pre post a m b hn hA hB; omega
  | succ n ih =>
  intro A B pre post a m b hn hA hB ha hm hb hl sA sB
  have hlen : ((pre ++ A ++ B ++ post).length : Int) = pre.length + A.length + B.length + post.length := by simp; omega
  have hl' := hl
  simp only [List.length_append] at hl'
  by_cases hA1 : A.length = 1
  · -- one element, then the second part
    obtain ⟨x, rfl⟩ : ∃ x, A = [x] := by
      match A, hA1 with
      | [x], _ => exact ⟨x, rfl⟩
    have e1 : pre ++ [x] ++ B ++ post = pre ++ x :: (B ++ post) := by simp
    rw [e1] at hl ⊢
    simp at hm
    refine Ev.step (f := fun k => l0 k (pre ++ x :: (B ++ post)) a m b) (fun k => by
      rw [hF.ef, wr_ (m - a) (by omega) (by omega), if_pos (by omega)]) ?_
    refine sy_l0 ht hcmp hF ha hl sB (fun C1 C2 hC h1 h2 => ?_) B.length [] B [] m b (by omega) (by simp) (by simp) (by simp) (by simp; omega) (by omega)
    subst hC
    have h3 := sy_l1 hF x (i := a + 1 + C1.length) C1 pre (C2 ++ post) a ha (by omega) (by simp at hl ⊢; omega)
    have h4 : C1 ++ x :: C2 = isort le ([x] ++ (C1 ++ C2)) := by
      have hs := List.pairwise_append.1 sB
      refine isort_eq ht (List.pairwise_append.2 ⟨hs.1, List.pairwise_cons.2 ⟨h2, hs.2.1⟩, fun p hp q hq => ?_⟩) ?_
      · rcases List.mem_cons.1 hq with rfl | hq
        · exact ht.of_not (h1 p hp)
        · exact hs.2.2 p hp q hq
      · have := SEq.append (SEq.swap ht (A := [x]) (B := C1) (fun p hp q hq => by simp at hp; subst hp; exact h1 q hq)).symm (SEq.refl C2)
        simpa using this
    rw [← h4]
    simpa using h3
  by_cases hB1 : B.length = 1
  · obtain ⟨x, rfl⟩ : ∃ x, B = [x] := by
      match B, hB1 with
      | [x], _ => exact ⟨x, rfl⟩
    have e1 : pre ++ A ++ [x] ++ post = pre ++ A ++ x :: post := by simp
    rw [e1] at hl ⊢
    simp at hb
    refine Ev.step (f := fun k => l2 k (pre ++ A ++ x :: post) m a m) (fun k => by
      rw [hF.ef, wr_ (m - a) (by omega) (by omega), if_neg (by omega), wr_ (b - m) (by omega) (by omega), if_pos (by omega)]) ?_
    refine sy_l2 ht hcmp hF ha hm hl sA (fun C1 C2 hC h1 h2 => ?_) A.length [] A [] a m (by omega) (by simp) (by simp) (by simp) (by simp) (by omega)
    subst hC
    have h3 := sy_l3 hF x (i := a + C1.length) (pre := pre ++ C1) (by simp; omega) C2.length C2 post m rfl (by simp at hm; omega) (by simp at hl ⊢; omega)
    have h4 : C1 ++ x :: C2 = isort le ((C1 ++ C2) ++ [x]) := by
      have hs := List.pairwise_append.1 sA
      refine isort_eq ht (List.pairwise_append.2 ⟨hs.1, List.pairwise_cons.2 ⟨fun z hz => ht.of_not (h2 z hz), hs.2.1⟩, fun p hp q hq => ?_⟩) ?_
      · rcases List.mem_cons.1 hq with rfl | hq
        · exact h1 p hp
        · exact hs.2.2 p hp q hq
      · have := SEq.append (SEq.refl C1) (SEq.swap ht (A := C2) (B := [x]) (fun p hp q hq => by simp at hq; subst hq; exact h2 p hp)).symm
        simpa using this
    rw [← h4]
    simpa using h3
  -- the general case
  have hh : hlf a b = (a + b) / 2 := hlf_ a b (by omega) (by omega) (by omega)
  obtain ⟨mid, hmid⟩ : ∃ mid, (a + b) / 2 = mid := ⟨_, rfl⟩
  have hmid1 : a < mid := by omega
  have hmid2 : mid < b := by omega
  obtain ⟨xs, hxs⟩ : ∃ xs, xs = pre ++ A ++ B ++ post := ⟨_, rfl⟩
  have hxl : (xs.length : Int) = pre.length + A.length + B.length + post.length := by rw [hxs]; exact hlen
  have getA : ∀ (c : Int) (i : Nat) (h : i < A.length), c = a + i → xs.getD c.toNat d = A[i] := fun c i h hc => by
    rw [hxs, List.append_assoc (pre ++ A)]; exact gA_ pre A (B ++ post) c i h (by omega)
  have getB : ∀ (c : Int) (i : Nat) (h : i < B.length), c = m + i → xs.getD c.toNat d = B[i] := fun c i h hc => by
    rw [hxs]; exact gA_ (pre ++ A) B post c i h (by simp; omega)
  have leA : ∀ c e : Int, a ≤ c → c ≤ e → e < m → le (xs.getD c.toNat d) (xs.getD e.toNat d) = true := fun c e h1 h2 h3 => by
    rw [getA c (c - a).toNat (by omega) (by omega), getA e (e - a).toNat (by omega) (by omega)]
    exact srt_get sA ht (by omega) (by omega)
  have leB : ∀ c e : Int, m ≤ c → c ≤ e → e < b → le (xs.getD c.toNat d) (xs.getD e.toNat d) = true := fun c e h1 h2 h3 => by
    rw [getB c (c - m).toNat (by omega) (by omega), getB e (e - m).toNat (by omega) (by omega)]
    exact srt_get sB ht (by omega) (by omega)
  -- what follows the search
  have follow : ∀ st : Int, a ≤ st → st ≤ m → m ≤ mid + m - st → mid + m - st ≤ b → (a < st → mid + m - st < b → le (xs.getD (st - 1).toNat d) (xs.getD (mid + m - st).toNat d) = true) → (st < m → m < mid + m - st → le (xs.getD st.toNat d) (xs.getD (mid + m - 1 - st).toNat d) = false) →
      Ev (fun k => if st < m then j6 k xs a m b mid st (wrap64 (mid + m - st)) (decide (m < wrap64 (mid + m - st))) else j6 k xs a m b mid st (wrap64 (mid + m - st)) false) (pre ++ isort le (A ++ B) ++ post) := by
    intro st q1 q2 q3 q4 q5 q6
    rw [wr_ (mid + m - st) (by omega) (by omega)]
    obtain ⟨en, hen⟩ : ∃ en, mid + m - st = en := ⟨_, rfl⟩
    rw [hen] at q3 q4 q5 q6 ⊢
    rw [show mid + m - 1 - st = en - 1 by omega] at q6
    obtain ⟨A1, A2, hA12, hA1l⟩ : ∃ A1 A2, A = A1 ++ A2 ∧ (A1.length : Int) = st - a := ⟨A.take (st - a).toNat, A.drop (st - a).toNat, (List.take_append_drop _ _).symm, by rw [List.length_take]; omega⟩
    obtain ⟨B1, B2, hB12, hB1l⟩ : ∃ B1 B2, B = B1 ++ B2 ∧ (B1.length : Int) = en - m := ⟨B.take (en - m).toNat, B.drop (en - m).toNat, (List.take_append_drop _ _).symm, by rw [List.length_take]; omega⟩
    have lA : (A.length : Int) = A1.length + A2.length := by rw [hA12]; simp
    have lB : (B.length : Int) = B1.length + B2.length := by rw [hB12]; simp
    have sA' := List.pairwise_append.1 (hA12 ▸ sA)
    have sB' := List.pairwise_append.1 (hB12 ▸ sB)
    -- each of A1 is at most each of B2
    have hAB : ∀ p ∈ A1, ∀ q ∈ B2, le p q = true := by
      intro p hp q hq
      obtain ⟨i, hi, rfl⟩ := List.getElem_of_mem hp
      obtain ⟨j, hj, rfl⟩ := List.getElem_of_mem hq
      have h1 := q5 (by omega) (by omega)
      have h2 := leA (a + i) (st - 1) (by omega) (by omega) (by omega)
      have h3 := leB en (en + j) (by omega) (by omega) (by omega)
      rw [getA (a + i) i (by omega) rfl] at h2
      rw [getB (en + j) (B1.length + j) (by omega) (by omega)] at h3
      have e1 : A[i]'(by omega) = A1[i] := by simp only [hA12]; exact List.getElem_append_left hi
      have e2 : B[B1.length + j]'(by omega) = B2[j] := by simp only [hB12]; rw [List.getElem_append_right (by omega)]; simp
      rw [e1] at h2; rw [e2] at h3
      exact ht.trans (ht.trans h2 h1) h3
    -- each of B1 is below each of A2
    have hBA : ∀ p ∈ A2, ∀ q ∈ B1, le p q = false := by
      intro p hp q hq
      obtain ⟨i, hi, rfl⟩ := List.getElem_of_mem hp
      obtain ⟨j, hj, rfl⟩ := List.getElem_of_mem hq
      have h1 := q6 (by omega) (by omega)
      have h2 := leA st (st + i) (by omega) (by omega) (by omega)
      have h3 := leB (m + j) (en - 1) (by omega) (by omega) (by omega)
      rw [getA (st + i) (A1.length + i) (by omega) (by omega)] at h2
      rw [getB (m + j) j (by omega) rfl] at h3
      have e1 : A[A1.length + i]'(by omega) = A2[i] := by simp only [hA12]; rw [List.getElem_append_right (by omega)]; simp
      have e2 : B[j]'(by omega) = B1[j] := by simp only [hB12]; exact List.getElem_append_left hj
      rw [e1] at h2; rw [e2] at h3
      cases h : le A2[i] B1[j]
      · rfl
      · rw [ht.trans (ht.trans h2 h) h3] at h1; cases h1
    -- the two halves, each put in order
    have hfin : isort le (A1 ++ B1) ++ isort le (A2 ++ B2) = isort le (A ++ B) := by
      refine isort_eq ht (List.pairwise_append.2 ⟨isort_srt ht _, isort_srt ht _, fun p hp q hq => ?_⟩) ?_
      · have hp := (isort_perm (le := le) _).mem_iff.1 hp
        have hq := (isort_perm (le := le) _).mem_iff.1 hq
        rcases List.mem_append.1 hp with hp | hp <;> rcases List.mem_append.1 hq with hq | hq
        · exact sA'.2.2 p hp q hq
        · exact hAB p hp q hq
        · exact ht.of_not (hBA q hq p hp)
        · exact sB'.2.2 p hp q hq
      · have h1 := SEq.append (isort_seq ht (A1 ++ B1)) (isort_seq ht (A2 ++ B2))
        have h2 := SEq.append (SEq.append (SEq.refl A1) (SEq.swap ht hBA).symm) (SEq.refl B2)
        refine h1.trans ?_
        rw [hA12, hB12]
        simpa using h2
    -- the last two calls
    have last : ∀ ys, ys = pre ++ A1 ++ B1 ++ A2 ++ B2 ++ post → Ev (fun k => j7 k ys a b mid st en) (pre ++ isort le (A ++ B) ++ post) := by
      intro ys hys
      have hyl : (ys.length : Int) = xs.length := by rw [hys, hxl]; simp; omega
      -- the second call
      have sec : ∀ zs, zs = pre ++ isort le (A1 ++ B1) ++ A2 ++ B2 ++ post → Ev (fun k => if mid < en then (if en < b then ((f k zs mid en b).bind fun u => some u) else some zs) else some zs) (pre ++ isort le (A ++ B) ++ post) := by
        intro zs hzs
        have hil : ((isort le (A1 ++ B1)).length : Int) = A1.length + B1.length := by rw [isort_len]; simp
        by_cases h1 : mid < en
        · by_cases h2 : en < b
          · simp only [if_pos h1, if_pos h2]
            have h3 := ih A2 B2 (pre ++ isort le (A1 ++ B1)) post mid en b (by omega) (by omega) (by omega) (by simp; omega) (by omega) (by omega) (by simp; omega) sA'.2.1 sB'.2.1
            have h4 : zs = (pre ++ isort le (A1 ++ B1)) ++ A2 ++ B2 ++ post := by rw [hzs]
            refine Ev.bind (a := pre ++ isort le (A ++ B) ++ post) ?_ (Ev.now _)
            rw [h4, ← hfin]
            simpa using h3
          · have hB2 : B2 = [] := eq_of_len0 (by omega)
            simp only [if_pos h1, if_neg h2]
            have h5 : zs = pre ++ isort le (A ++ B) ++ post := by
              rw [hzs, ← hfin, hB2, srt_isort ht (xs := A2 ++ []) (by simpa using sA'.2.1)]; simp
            rw [h5]; exact Ev.now _
        · have hA2 : A2 = [] := eq_of_len0 (by omega)
          simp only [if_neg h1]
          have h5 : zs = pre ++ isort le (A ++ B) ++ post := by
            rw [hzs, ← hfin, hA2, srt_isort ht (xs := [] ++ B2) (by simpa using sB'.2.1)]; simp
          rw [h5]; exact Ev.now _
      refine Ev.step (f := fun k => j8 k ys a b mid st en (decide (a < st ∧ st < mid))) (fun k => by
        rw [hF.ej7]
        by_cases h1 : a < st
        · rw [if_pos h1]; simp [h1]
        · rw [if_neg h1]; simp [h1]) ?_
      by_cases h1 : a < st ∧ st < mid
      · rw [decide_eq_true h1]
        refine Ev.step (fun k => by rw [hF.ej8, if_pos rfl]) ?_
        have h3 := ih A1 B1 pre (A2 ++ B2 ++ post) a st mid (by omega) (by omega) (by omega) ha (by omega) (by omega) (by simp; omega) sA'.1 sB'.1
        refine Ev.bind (a := pre ++ isort le (A1 ++ B1) ++ A2 ++ B2 ++ post) ?_ (sec _ rfl)
        rw [hys]
        simpa using h3
      · rw [decide_eq_false h1]
        refine Ev.step (fun k => by rw [hF.ej8, if_neg (by simp)]) (sec _ ?_)
        have : isort le (A1 ++ B1) = A1 ++ B1 := by
          refine srt_isort ht ?_
          by_cases h2 : a < st
          · have hB1 : B1 = [] := eq_of_len0 (by omega)
            rw [hB1]; simpa using sA'.1
          · have hA1 : A1 = [] := eq_of_len0 (by omega)
            rw [hA1]; simpa using sB'.1
        rw [hys, this]
        simp
    by_cases h1 : st < m ∧ m < en
    · have e1 : ∀ k, (if st < m then j6 k xs a m b mid st en (decide (m < en)) else j6 k xs a m b mid st en false) = j6 k xs a m b mid st en true := fun k => by rw [if_pos h1.1, decide_eq_true h1.2]
      refine Ev.congr e1 (Ev.step (fun k => by rw [hF.ej6, if_pos rfl, wr_ (m - st) (by omega) (by omega), wr_ (en - m) (by omega) (by omega)]) ?_)
      have h3 := ro_l0 hS hR (m := m) (A2.length + B1.length) A2 B1 (pre ++ A1) (B2 ++ post) (m - st) (en - m) (Nat.le_refl _) (by omega) (by omega) (by simp; omega) (by omega) (by omega) (by simp; omega)
      refine Ev.bind (a := pre ++ A1 ++ B1 ++ A2 ++ B2 ++ post) ?_ (last _ rfl)
      rw [hxs, hA12, hB12]
      simpa using h3
    · have e1 : ∀ k, (if st < m then j6 k xs a m b mid st en (decide (m < en)) else j6 k xs a m b mid st en false) = j6 k xs a m b mid st en false := fun k => by
        by_cases h2 : st < m
        · rw [if_pos h2, decide_eq_false (fun h3 => h1 ⟨h2, h3⟩)]
        · rw [if_neg h2]
      refine Ev.congr e1 (Ev.step (fun k => by rw [hF.ej6, if_neg (by simp)]) (last _ ?_))
      rw [hxs, hA12, hB12]
      by_cases h2 : st < m
      · have hB1 : B1 = [] := eq_of_len0 (by omega)
        rw [hB1]; simp
      · have hA2 : A2 = [] := eq_of_len0 (by omega)
        rw [hA2]; simp
  rw [← hxs]
  have hp : ∀ s1 s2 : Int, a ≤ s1 → s2 ≤ m → m ≤ mid + m - s2 → mid + m - s1 ≤ b → s1 ≤ s2 → (s1 = a ∨ mid + m - s1 = b) → (s2 = m ∨ mid + m - s2 = m) → Ev (fun k => l4 k xs a m b mid (mid + m) s1 s2 (mid + m - 1)) (pre ++ isort le (A ++ B) ++ post) := by
    intro s1 s2 q1 q2 q3 q4 q5 q6 q7
    refine sy_l4 hcmp hF (by omega) (by omega) (by omega) (fun c h1 h2 => by omega) (fun c e h1 h2 h3 h4 => ?_) (fun st h1 h2 h3 h4 => ?_) (s2 - s1).toNat s1 s2 (Int.le_refl _) q5 (Int.le_refl _) (Nat.le_refl _) (fun h => by omega) (fun h => by omega)
    · have g1 := leA c e (by omega) h2 (by omega)
      have g2 := leB (mid + m - 1 - e) (mid + m - 1 - c) (by omega) (by omega) (by omega)
      cases h : le (xs.getD e.toNat d) (xs.getD (mid + m - 1 - e).toNat d)
      · rfl
      · rw [ht.trans (ht.trans g1 h) g2] at h4; cases h4
    · refine follow st (by omega) (by omega) (by omega) (by omega) (fun h5 h6 => ?_) (fun h5 h6 => ?_)
      · have := h3 (by omega)
        rw [show mid + m - 1 - (st - 1) = mid + m - st by omega] at this
        exact this
      · exact h4 (by omega)
  by_cases hmm : m > mid
  · refine Ev.step (f := fun k => j4 k xs a m b mid (mid + m) (mid + m - b) mid) (fun k => by
      rw [hF.ef, wr_ (m - a) (by omega) (by omega), if_neg (by omega), wr_ (b - m) (by omega) (by omega), if_neg (by omega), hh, hmid, if_pos hmm, wr_ (mid + m) (by omega) (by omega), wr_ (mid + m - b) (by omega) (by omega)]) ?_
    refine Ev.step (f := fun k => l4 k xs a m b mid (mid + m) (mid + m - b) mid (mid + m - 1)) (fun k => by
      rw [hF.ej4, wr_ (mid + m - 1) (by omega) (by omega)]) ?_
    exact hp _ _ (by omega) (by omega) (by omega) (by omega) (by omega) (by omega) (by omega)
  · refine Ev.step (f := fun k => j4 k xs a m b mid (mid + m) a m) (fun k => by
      rw [hF.ef, wr_ (m - a) (by omega) (by omega), if_neg (by omega), wr_ (b - m) (by omega) (by omega), if_neg (by omega), hh, hmid, if_neg hmm, wr_ (mid + m) (by omega) (by omega)]) ?_
    refine Ev.step (f := fun k => l4 k xs a m b mid (mid + m) a m (mid + m - 1)) (fun k => by
      rw [hF.ej4, wr_ (mid + m - 1) (by omega) (by omega)]) ?_
    exact hp _ _ (by omega) (by omega) (by omega) (by omega) (by omega) (by omega) (by omega)
end SortD
section SortE
variable {α : Type} {d : α} {le : α → α → Bool} {cmp : α → α → Option Int}
variable {i0 : Nat → List α → Int → Int → Int → Option (List α)} {i1 : Nat → List α → Int → Int → Int → Int → Option (List α)} {s0 : Nat → List α → Int → Int → Int → Int → Option (List α)} {r0 : Nat → List α → Int → Int → Int → Option (List α)} {l0 : Nat → List α → Int → Int → Int → Option (List α)} {l1 : Nat → List α → Int → Int → Option (List α)} {l2 : Nat → List α → Int → Int → Int → Option (List α)} {l3 : Nat → List α → Int → Int → Option (List α)}
    {j4 : Nat → List α → Int → Int → Int → Int → Int → Int → Int → Option (List α)} {l4 : Nat → List α → Int → Int → Int → Int → Int → Int → Int → Int → Option (List α)} {j6 : Nat → List α → Int → Int → Int → Int → Int → Int → Bool → Option (List α)} {j7 : Nat → List α → Int → Int → Int → Int → Int → Option (List α)} {j8 : Nat → List α → Int → Int → Int → Int → Int → Bool → Option (List α)}
    {f : Nat → List α → Int → Int → Int → Option (List α)}
structure StF (i0 : Nat → List α → Int → Int → Int → Option (List α)) (f : Nat → List α → Int → Int → Int → Option (List α)) (t0 : Nat → List α → Int → Int → Int → Int → Option (List α)) (t1 : Nat → List α → Int → Int → Option (List α)) (t2 : Nat → List α → Int → Int → Int → Int → Option (List α)) : Prop where
  e0 : ∀ k xs n s a b, t0 (k + 1) xs n s a b = if b ≤ n then ((i0 k xs a b (wrap64 (a + 1))).bind fun t => t0 k t n s b (wrap64 (b + s))) else ((i0 k xs a n (wrap64 (a + 1))).bind fun t => t1 k t n s)
  e1 : ∀ k xs n s, t1 (k + 1) xs n s = if s < n then t2 k xs n s 0 (wrap64 (2 * s)) else some xs
  e2 : ∀ k xs n s a b, t2 (k + 1) xs n s a b = if b ≤ n then ((f k xs a (wrap64 (a + s)) b).bind fun t => t2 k t n s b (wrap64 (b + wrap64 (2 * s)))) else (if wrap64 (a + s) < n then ((f k xs a (wrap64 (a + s)) n).bind fun t => t1 k t n (wrap64 (s * 2))) else t1 k xs n (wrap64 (s * 2)))
variable {t0 : Nat → List α → Int → Int → Int → Int → Option (List α)} {t1 : Nat → List α → Int → Int → Option (List α)} {t2 : Nat → List α → Int → Int → Int → Int → Option (List α)}
inductive Blk (le : α → α → Bool) (s : Nat) : List α → Prop
  | last {xs : List α} : xs.length ≤ s → Srt le xs → Blk le s xs
  | more {B R : List α} : B.length = s → Srt le B → Blk le s R → Blk le s (B ++ R)
theorem Blk.srt {s : Nat} : ∀ {xs : List α}, Blk le s xs → xs.length ≤ s → Srt le xs
  | _, .last _ h, _ => h
  | _, .more (B := B) (R := R) hB h hR, hl => by
    have : R = [] := eq_of_len0 (by simp at hl; omega)
    rw [this]; simpa using h
theorem Blk.split {s : Nat} {xs : List α} (h : Blk le s xs) (hl : s < xs.length) : ∃ B R, xs = B ++ R ∧ B.length = s ∧ Srt le B ∧ Blk le s R := by
  cases h with
  | last h1 h2 => omega
  | more h1 h2 h3 => exact ⟨_, _, rfl, h1, h2, h3⟩
theorem stl_l2 (ht : TP le) (hcmp : Cmp le cmp) (hS : SwF d s0) (hR : RoF s0 r0) (hF : SyF d cmp r0 l0 l1 l2 l3 j4 l4 j6 j7 j8 f) (hT : StF i0 f t0 t1 t2) {n s : Nat} (hs : 0 < s) (hn : n < 1099511627776) (hs2 : s < 1099511627776) {r : List α} {zs : List α}
    (hk : ∀ ys : List α, ys.length = n → SEq le ys zs → Blk le (2 * s) ys → Ev (fun k => t1 k ys n ((s : Int) * 2)) r) : ∀ (c : Nat) (pre R : List α) (a b : Int), R.length ≤ c → a = pre.length → b = a + 2 * s → (pre ++ R).length = n → SEq le (pre ++ R) zs → Blk le s R →
      (∀ R', Blk le (2 * s) R' → Blk le (2 * s) (pre ++ R')) → Ev (fun k => t2 k (pre ++ R) n s a b) r := by
  intro c
  induction c with
  | zero =>
    intro pre R a b hc ha hb hl hz hB hP
    have hR0 : R = [] := eq_of_len0 (by omega)
    subst hR0
    simp at hl
    refine Ev.step (f := fun k => t1 k (pre ++ []) n ((s : Int) * 2)) (fun k => by
      rw [hT.e2, if_neg (by omega), wr_ (a + s) (by omega) (by omega), if_neg (by omega), wr_ ((s : Int) * 2) (by omega) (by omega)]) ?_
    exact hk _ (by simpa using hl) hz (hP [] (.last (by simp) .nil))
  | succ c ih =>
    intro pre R a b hc ha hb hl hz hB hP
    have hl2 : pre.length + R.length = n := by simpa using hl
    by_cases h1 : b ≤ n
    · obtain ⟨B1, R1, rfl, hB1, sB1, hR1⟩ := hB.split (by omega)
      obtain ⟨B2, R2, rfl, hB2, sB2, hR2⟩ : ∃ B R, R1 = B ++ R ∧ B.length = s ∧ Srt le B ∧ Blk le s R := by
        simp at hl2
        by_cases h2 : s < R1.length
        · exact hR1.split h2
        · exact ⟨R1, [], by simp, by omega, hR1.srt (by omega), .last (by simp) .nil⟩
      simp at hl2 hc
      refine Ev.step (f := fun k => (f k (pre ++ (B1 ++ (B2 ++ R2))) a (a + s) b).bind fun t => t2 k t n s b (b + 2 * s)) (fun k => by
        rw [hT.e2, if_pos h1, wr_ (a + s) (by omega) (by omega), wr_ (2 * (s : Int)) (by omega) (by omega), wr_ (b + 2 * s) (by omega) (by omega)]) ?_
      have h3 := sy_f ht hcmp hS hR hF (B1.length + B2.length) B1 B2 pre R2 a (a + s) b (Nat.le_refl _) (by omega) (by omega) ha (by omega) (by omega) (by simp; omega) sB1 sB2
      refine Ev.bind (a := pre ++ isort le (B1 ++ B2) ++ R2) (by simpa using h3) ?_
      have hil : (isort le (B1 ++ B2)).length = 2 * s := by rw [isort_len]; simp; omega
      refine ih (pre ++ isort le (B1 ++ B2)) R2 b (b + 2 * s) (by omega) (by simp; omega) rfl (by simp; omega) (SEq.trans ?_ hz) hR2 (fun R' h4 => ?_)
      · have := SEq.append (SEq.append (SEq.refl pre) (isort_seq ht (B1 ++ B2))) (SEq.refl R2)
        simpa using this
      · have := hP (isort le (B1 ++ B2) ++ R') (.more hil (isort_srt ht _) h4)
        simpa using this
    · by_cases h2 : a + s < n
      · obtain ⟨B1, R1, rfl, hB1, sB1, hR1⟩ := hB.split (by omega)
        simp at hl2
        have sR1 := hR1.srt (by omega)
        refine Ev.step (f := fun k => (f k (pre ++ (B1 ++ R1)) a (a + s) n).bind fun t => t1 k t n ((s : Int) * 2)) (fun k => by
          rw [hT.e2, if_neg h1, wr_ (a + s) (by omega) (by omega), if_pos h2, wr_ ((s : Int) * 2) (by omega) (by omega)]) ?_
        have h3 := sy_f ht hcmp hS hR hF (B1.length + R1.length) B1 R1 pre [] a (a + s) n (Nat.le_refl _) (by omega) (by omega) ha (by omega) (by omega) (by simp; omega) sB1 sR1
        refine Ev.bind (a := pre ++ isort le (B1 ++ R1)) (by simpa using h3) ?_
        refine hk _ (by simp [isort_len]; omega) (SEq.trans ?_ hz) (hP _ (.last (by rw [isort_len]; simp; omega) (isort_srt ht _)))
        exact SEq.append (SEq.refl pre) (isort_seq ht (B1 ++ R1))
      · refine Ev.step (f := fun k => t1 k (pre ++ R) n ((s : Int) * 2)) (fun k => by
          rw [hT.e2, if_neg h1, wr_ (a + s) (by omega) (by omega), if_neg h2, wr_ ((s : Int) * 2) (by omega) (by omega)]) ?_
        exact hk _ hl hz (hP R (.last (by omega) (hB.srt (by omega))))
theorem stl_l1 (ht : TP le) (hcmp : Cmp le cmp) (hS : SwF d s0) (hR : RoF s0 r0) (hF : SyF d cmp r0 l0 l1 l2 l3 j4 l4 j6 j7 j8 f) (hT : StF i0 f t0 t1 t2) {n : Nat} (hn : n < 1099511627776) {zs : List α} : ∀ (c s : Nat) (ys : List α), 0 < s → s < 1099511627776 * 2 → n - s ≤ c → ys.length = n → SEq le ys zs → Blk le s ys →
    Ev (fun k => t1 k ys n (s : Int)) (isort le zs) := by
  intro c
  induction c with
  | zero =>
    intro s ys h0 h1 h2 h3 h4 h5
    refine Ev.step (f := fun _ => some (isort le zs)) (fun k => ?_) (Ev.now _)
    rw [hT.e1, if_neg (by omega), isort_eq ht (h5.srt (by omega)) h4]
  | succ c ih =>
    intro s ys h0 h1 h2 h3 h4 h5
    by_cases h6 : s < n
    · refine Ev.step (f := fun k => t2 k ys n s 0 (2 * s)) (fun k => by rw [hT.e1, if_pos (by omega), wr_ (2 * (s : Int)) (by omega) (by omega)]) ?_
      have := stl_l2 ht hcmp hS hR hF hT (n := n) (s := s) h0 hn (by omega) (r := isort le zs) (zs := zs) (fun ys' g1 g2 g3 => ?_) ys.length [] ys 0 (2 * s) (Nat.le_refl _) (by simp) (by omega) (by simpa using h3) (by simpa using h4) h5 (fun R' h => by simpa using h)
      · simpa using this
      · have := ih (2 * s) ys' (by omega) (by omega) (by omega) g1 g2 g3
        rw [show ((s : Int) * 2) = ((2 * s : Nat) : Int) by omega]
        exact this
    · refine Ev.step (f := fun _ => some (isort le zs)) (fun k => ?_) (Ev.now _)
      rw [hT.e1, if_neg (by omega), isort_eq ht (h5.srt (by omega)) h4]
theorem stl_l0 (ht : TP le) (hcmp : Cmp le cmp) (hI : InsF d cmp i0 i1) (hT : StF i0 f t0 t1 t2) {n s : Nat} (hs : 0 < s) (hn : n < 1099511627776) (hs2 : s < 1099511627776) {r : List α} {zs : List α}
    (hk : ∀ ys : List α, ys.length = n → SEq le ys zs → Blk le s ys → Ev (fun k => t1 k ys n s) r) : ∀ (c : Nat) (pre R : List α) (a b : Int), R.length ≤ c → a = pre.length → b = a + s → (pre ++ R).length = n → SEq le (pre ++ R) zs →
      (∀ R', Blk le s R' → Blk le s (pre ++ R')) → Ev (fun k => t0 k (pre ++ R) n s a b) r := by
  intro c
  induction c with
  | zero =>
    intro pre R a b hc ha hb hl hz hP
    have hR0 : R = [] := eq_of_len0 (by omega)
    subst hR0
    simp at hl
    refine Ev.step (f := fun k => (i0 k (pre ++ []) a n (wrap64 (a + 1))).bind fun t => t1 k t n s) (fun k => by rw [hT.e0, if_neg (by omega)]) ?_
    have h3 := ins_f ht hcmp hI (pre := pre) (S := []) (post := []) (a := a) (b := n) ha (by simp; omega) (by simp; omega)
    refine Ev.bind (a := pre ++ []) (by simpa [isort] using h3) (hk _ (by simpa using hl) hz (hP [] (.last (by simp) .nil)))
  | succ c ih =>
    intro pre R a b hc ha hb hl hz hP
    have hl2 : pre.length + R.length = n := by simpa using hl
    by_cases h1 : b ≤ n
    · obtain ⟨B, R2, rfl, hB⟩ : ∃ B R2, R = B ++ R2 ∧ B.length = s := ⟨R.take s, R.drop s, (List.take_append_drop _ _).symm, by rw [List.length_take]; omega⟩
      simp at hl2 hc
      refine Ev.step (f := fun k => (i0 k (pre ++ (B ++ R2)) a b (wrap64 (a + 1))).bind fun t => t0 k t n s b (b + s)) (fun k => by rw [hT.e0, if_pos h1, wr_ (b + s) (by omega) (by omega)]) ?_
      have h3 := ins_f ht hcmp hI (pre := pre) (S := B) (post := R2) (a := a) (b := b) ha (by omega) (by simp; omega)
      refine Ev.bind (a := pre ++ isort le B ++ R2) (by simpa using h3) ?_
      have hil : (isort le B).length = s := by rw [isort_len]; omega
      refine ih (pre ++ isort le B) R2 b (b + s) (by omega) (by simp; omega) rfl (by simp; omega) (SEq.trans ?_ hz) (fun R' h4 => ?_)
      · have := SEq.append (SEq.append (SEq.refl pre) (isort_seq ht B)) (SEq.refl R2)
        simpa using this
      · have := hP (isort le B ++ R') (.more hil (isort_srt ht _) h4)
        simpa using this
    · refine Ev.step (f := fun k => (i0 k (pre ++ R) a n (wrap64 (a + 1))).bind fun t => t1 k t n s) (fun k => by rw [hT.e0, if_neg h1]) ?_
      have h3 := ins_f ht hcmp hI (pre := pre) (S := R) (post := []) (a := a) (b := n) ha (by omega) (by simp; omega)
      refine Ev.bind (a := pre ++ isort le R) (by simpa using h3) ?_
      refine hk _ (by simp [isort_len]; omega) (SEq.trans ?_ hz) (hP _ (.last (by rw [isort_len]; omega) (isort_srt ht _)))
      exact SEq.append (SEq.refl pre) (isort_seq ht R)
theorem stl_f (ht : TP le) (hcmp : Cmp le cmp) (hI : InsF d cmp i0 i1) (hS : SwF d s0) (hR : RoF s0 r0) (hF : SyF d cmp r0 l0 l1 l2 l3 j4 l4 j6 j7 j8 f) (hT : StF i0 f t0 t1 t2) (xs : List α) (hl : xs.length < 1099511627776) : Ev (fun k => t0 k xs (xs.length : Int) 20 0 20) (isort le xs) := by
  have := stl_l0 ht hcmp hI hT (n := xs.length) (s := 20) (by omega) hl (by omega) (r := isort le xs) (zs := xs) (fun ys g1 g2 g3 => stl_l1 ht hcmp hS hR hF hT hl xs.length 20 ys (by omega) (by omega) (by omega) g1 g2 g3) xs.length [] xs 0 20 (Nat.le_refl _) (by simp) (by omega) (by simp) (SEq.refl _) (fun R' h => by simpa using h)
  simpa using this
end SortE

theorem sortI_Job__job_Due_1 : InsF z32 ((fun x y : S32 => job_Due_1.f x.f0 x.f1 x.f2 x.f3 x.f4 x.f5 x.f6 x.f7 x.f8 x.f9 x.f10 x.f11 y.f0 y.f1 y.f2 y.f3 y.f4 y.f5 y.f6 y.f7 y.f8 y.f9 y.f10 y.f11)) slices_insertionSortCmpFunc_Job__job_Due_1.l0 slices_insertionSortCmpFunc_Job__job_Due_1.l1 := ⟨by intros; simp only [slices_insertionSortCmpFunc_Job__job_Due_1.l0], by intros; simp only [slices_insertionSortCmpFunc_Job__job_Due_1.l1]; rfl⟩
theorem sortW_Job__job_Due_1 : SwF z32 slices_swapRangeCmpFunc_Job__job_Due_1.l0 := ⟨by intros; simp only [slices_swapRangeCmpFunc_Job__job_Due_1.l0]; rfl⟩
theorem sortR_Job__job_Due_1 : RoF slices_swapRangeCmpFunc_Job__job_Due_1.l0 slices_rotateCmpFunc_Job__job_Due_1.l0 := ⟨by intros; simp only [slices_rotateCmpFunc_Job__job_Due_1.l0, slices_swapRangeCmpFunc_Job__job_Due_1.f]⟩
theorem sortY_Job__job_Due_1 : SyF z32 ((fun x y : S32 => job_Due_1.f x.f0 x.f1 x.f2 x.f3 x.f4 x.f5 x.f6 x.f7 x.f8 x.f9 x.f10 x.f11 y.f0 y.f1 y.f2 y.f3 y.f4 y.f5 y.f6 y.f7 y.f8 y.f9 y.f10 y.f11)) slices_rotateCmpFunc_Job__job_Due_1.l0 slices_symMergeCmpFunc_Job__job_Due_1.l0 slices_symMergeCmpFunc_Job__job_Due_1.l1 slices_symMergeCmpFunc_Job__job_Due_1.l2 slices_symMergeCmpFunc_Job__job_Due_1.l3 slices_symMergeCmpFunc_Job__job_Due_1.j4 slices_symMergeCmpFunc_Job__job_Due_1.l4 slices_symMergeCmpFunc_Job__job_Due_1.j6 slices_symMergeCmpFunc_Job__job_Due_1.j7 slices_symMergeCmpFunc_Job__job_Due_1.j8 slices_symMergeCmpFunc_Job__job_Due_1.f where
  ef := by intros; simp only [slices_symMergeCmpFunc_Job__job_Due_1.f]
  e0 := by intros; simp only [slices_symMergeCmpFunc_Job__job_Due_1.l0]; rfl
  e1 := by intros; simp only [slices_symMergeCmpFunc_Job__job_Due_1.l1]; rfl
  e2 := by intros; simp only [slices_symMergeCmpFunc_Job__job_Due_1.l2]; rfl
  e3 := by intros; simp only [slices_symMergeCmpFunc_Job__job_Due_1.l3]; rfl
  ej4 := by intros; simp only [slices_symMergeCmpFunc_Job__job_Due_1.j4]
  e4 := by intros; simp only [slices_symMergeCmpFunc_Job__job_Due_1.l4]; rfl
  ej6 := by intros; simp only [slices_symMergeCmpFunc_Job__job_Due_1.j6, slices_rotateCmpFunc_Job__job_Due_1.f]
  ej7 := by intros; simp only [slices_symMergeCmpFunc_Job__job_Due_1.j7]
  ej8 := by intros; simp only [slices_symMergeCmpFunc_Job__job_Due_1.j8]
theorem sortB_Job__job_Due_1 : StF slices_insertionSortCmpFunc_Job__job_Due_1.l0 slices_symMergeCmpFunc_Job__job_Due_1.f slices_stableCmpFunc_Job__job_Due_1.l0 slices_stableCmpFunc_Job__job_Due_1.l1 slices_stableCmpFunc_Job__job_Due_1.l2 := ⟨by intros; simp only [slices_stableCmpFunc_Job__job_Due_1.l0, slices_insertionSortCmpFunc_Job__job_Due_1.f], by intros; simp only [slices_stableCmpFunc_Job__job_Due_1.l1], by intros; simp only [slices_stableCmpFunc_Job__job_Due_1.l2]⟩
theorem SORT_Job__job_Due_1 {le : S32 → S32 → Bool} (ht : TP le) (hc : Cmp le ((fun x y : S32 => job_Due_1.f x.f0 x.f1 x.f2 x.f3 x.f4 x.f5 x.f6 x.f7 x.f8 x.f9 x.f10 x.f11 y.f0 y.f1 y.f2 y.f3 y.f4 y.f5 y.f6 y.f7 y.f8 y.f9 y.f10 y.f11))) (xs : List S32) (hl : xs.length < 1099511627776) : Ev (fun k => slices_SortStableFunc_Job__job_Due_1.f k xs) (isort le xs) := by
  have h := stl_f ht hc sortI_Job__job_Due_1 sortW_Job__job_Due_1 sortR_Job__job_Due_1 sortY_Job__job_Due_1 sortB_Job__job_Due_1 xs hl
  have e : ∀ k, slices_SortStableFunc_Job__job_Due_1.f k xs = (slices_stableCmpFunc_Job__job_Due_1.l0 k xs (xs.length : Int) 20 0 20) := fun k => by
    unfold slices_SortStableFunc_Job__job_Due_1.f slices_stableCmpFunc_Job__job_Due_1.f
    cases slices_stableCmpFunc_Job__job_Due_1.l0 k xs (xs.length : Int) 20 0 20 <;> rfl
  exact Ev.congr e h

def endOf (x : S32) : Int := wrap64 (x.f8 + x.f3)
def leD (x y : S32) : Bool := decide (endOf x < endOf y) || (decide (endOf x = endOf y) && decide (x.f0 ≤ y.f0))
theorem tpD : TP leD := by
  constructor
  · intro a b; unfold leD; simp only [Bool.or_eq_true, Bool.and_eq_true, decide_eq_true_eq]; omega
  · intro a b c; unfold leD; simp only [Bool.or_eq_true, Bool.and_eq_true, decide_eq_true_eq]; omega
theorem cmpc (x y : Int) : cmp_Compare_int.f x y = some (if x < y then -1 else if x > y then 1 else 0) := by
  unfold cmp_Compare_int.f cmp_isNaN_int.f
  simp only [Option.bind_some]
  first | (split <;> (try split) <;> simp_all; done) | (simp; split <;> (try split) <;> rfl)
theorem orc (x y : Int) : cmp_Or_int.f 10 [x, y] = some (if x = 0 then y else x) := by
  have e1 : wrap64 (0 + 1) = 1 := by decide +kernel
  have e2 : wrap64 (1 + 1) = 2 := by decide +kernel
  unfold cmp_Or_int.f
  rw [cmp_Or_int.l0.eq_2, if_pos (by simp), if_pos (by omega), if_pos (by simp)]
  rw [show rd [x, y] 0 = x from rfl]
  by_cases hx : x = 0
  · rw [if_pos hx, if_pos hx, e1, cmp_Or_int.l0.eq_2, if_pos (by simp), if_pos (by omega), if_pos (by simp)]
    rw [show rd [x, y] 1 = y from rfl]
    by_cases hy : y = 0
    · rw [if_pos hy, e2, cmp_Or_int.l0.eq_2, if_neg (by simp), hy]
    · rw [if_neg hy]
  · rw [if_neg hx, if_neg hx]
theorem cmpD : Cmp leD (fun x y : S32 => job_Due_1.f x.f0 x.f1 x.f2 x.f3 x.f4 x.f5 x.f6 x.f7 x.f8 x.f9 x.f10 x.f11 y.f0 y.f1 y.f2 y.f3 y.f4 y.f5 y.f6 y.f7 y.f8 y.f9 y.f10 y.f11) := by
  intro a b
  refine ⟨_, by unfold job_Due_1.f job_DueL.f; dsimp only; rw [cmpc, cmpc, Option.bind_some, Option.bind_some, orc]; rfl, ?_⟩
  unfold leD endOf
  rw [Bool.eq_false_iff]
  simp only [ne_eq, Bool.or_eq_true, Bool.and_eq_true, decide_eq_true_eq]
  repeat' split
  all_goals omega
theorem sort_ev (xs : List S32) (hl : xs.length < 1099511627776) : Ev (fun k => slices_SortStableFunc_Job__job_Due_1.f k xs) (isort leD xs) := SORT_Job__job_Due_1 tpD cmpD xs hl
end Go.Proofs.Ytkhfgflcanmefaa.Pure
end
section
set_option linter.unusedVariables false
set_option linter.unusedSimpArgs false
namespace Go.Proofs.Ytkhfgflcanmefaa.Pure
open Go Go.RowKit Go.Proofs.Ytkhfgflcanmefaa.PAll Go.Proofs.YtkhfgflcanmefaaW.PrintWords Go.Proofs.YtkhfgflcanmefaaW.PrintLast

theorem awake_ev : Ev (fun k => prebendlaw19_awake.f k) true := by
  refine ⟨80, fun k hk => ?_⟩
  have h : prebendlaw19_awake.f 80 = some true := by decide +kernel
  obtain ⟨d, rfl⟩ : ∃ d, k = 80 + d := ⟨k - 80, by omega⟩
  induction d with
  | zero => exact h
  | succ d ih => exact prebendlaw19_awake.mono _ _ (ih (by omega))
def rs (l : List S32) : List S32 := l.filter (fun x => x.f7 == 3)
theorem rdJ {l : List S32} {i : Nat} (h : i < l.length) : rd_T32 l (i : Int) = l[i] := by simp [rd_T32, List.getD_eq_getElem?_getD, h]
theorem run1 (x : S32) : job_running_1.f x.f0 x.f1 x.f2 x.f3 x.f4 x.f5 x.f6 x.f7 x.f8 x.f9 x.f10 x.f11 = some (x.f7 != 3) := rfl
theorem take1 {l : List S32} {i : Nat} (h : i < l.length) : l.take (i + 1) = l.take i ++ [l[i]] := (List.take_append_getElem h).symm
theorem idx_l0 (l : List S32) (hl : l.length ≤ 1000) : ∀ (d i : Nat), i + d = l.length → (∀ x ∈ l.take i, x.f7 = 3) → ∃ r : Int, Ev (fun k => slices_IndexFunc_Job__job_running_1.l0 k l (l.length : Int) (i : Int)) r ∧
    ((r = -1 ∧ ∀ x ∈ l, x.f7 = 3) ∨ ∃ p : Nat, r = (p : Int) ∧ ∃ hp : p < l.length, (∀ x ∈ l.take p, x.f7 = 3) ∧ l[p].f7 ≠ 3)
  | 0, i, h, ha => by
    refine ⟨-1, ⟨1, fun k hk => ?_⟩, .inl ⟨rfl, fun x hx => ha x (by rw [List.take_of_length_le (by omega)]; exact hx)⟩⟩
    obtain ⟨k, rfl⟩ : ∃ k', k = k' + 1 := ⟨k - 1, by omega⟩
    show slices_IndexFunc_Job__job_running_1.l0 (k + 1) l (l.length : Int) (i : Int) = _
    rw [slices_IndexFunc_Job__job_running_1.l0.eq_2, if_neg (by omega)]
  | d + 1, i, h, ha => by
    have hi : i < l.length := by omega
    have ew : wrap64 ((i : Int) + 1) = ((i + 1 : Nat) : Int) := by unfold wrap64; omega
    by_cases c : l[i].f7 = 3
    · obtain ⟨r, ⟨K, hK⟩, hr⟩ := idx_l0 l hl d (i + 1) (by omega) (fun x hx => by
        rw [take1 hi] at hx
        rcases List.mem_append.mp hx with hx | hx
        · exact ha x hx
        · rw [List.mem_singleton.mp hx]; exact c)
      refine ⟨r, ⟨K + 1, fun k hk => ?_⟩, hr⟩
      obtain ⟨k, rfl⟩ : ∃ k', k = k' + 1 := ⟨k - 1, by omega⟩
      have hk2 : slices_IndexFunc_Job__job_running_1.l0 k l (l.length : Int) ((i + 1 : Nat) : Int) = some r := hK k (by omega)
      show slices_IndexFunc_Job__job_running_1.l0 (k + 1) l (l.length : Int) (i : Int) = _
      have hc : (l[i].f7 != 3) = false := by simp [c]
      rw [slices_IndexFunc_Job__job_running_1.l0.eq_2, if_pos (by omega), if_pos (by omega), if_pos (by omega), rdJ hi, run1, Option.bind_some, hc, if_neg (by decide), ew, hk2]
    · refine ⟨i, ⟨1, fun k hk => ?_⟩, .inr ⟨i, rfl, hi, ha, c⟩⟩
      obtain ⟨k, rfl⟩ : ∃ k', k = k' + 1 := ⟨k - 1, by omega⟩
      show slices_IndexFunc_Job__job_running_1.l0 (k + 1) l (l.length : Int) (i : Int) = _
      have hc : (l[i].f7 != 3) = true := by simp [c]
      rw [slices_IndexFunc_Job__job_running_1.l0.eq_2, if_pos (by omega), if_pos (by omega), if_pos (by omega), rdJ hi, run1, Option.bind_some, hc, if_pos rfl]
theorem del_l0 (l : List S32) (hl : l.length ≤ 1000) : ∀ (d j i : Nat) (x0 : List S32), j + d = l.length → x0.length = l.length → i ≤ j → x0.take i = rs (l.take j) → x0.drop j = l.drop j → Ev (fun k => slices_DeleteFunc_Job__job_running_1.l0 k x0 (i : Int) (j : Int)) (rs l)
  | 0, j, i, x0, h, hx, hij, ht, hd => by
    refine ⟨1, fun k hk => ?_⟩
    obtain ⟨k, rfl⟩ : ∃ k', k = k' + 1 := ⟨k - 1, by omega⟩
    show slices_DeleteFunc_Job__job_running_1.l0 (k + 1) x0 (i : Int) (j : Int) = _
    rw [slices_DeleteFunc_Job__job_running_1.l0.eq_2, if_neg (by omega), if_pos (by omega), if_pos (by omega), Int.toNat_natCast, ht, List.take_of_length_le (by omega)]
  | d + 1, j, i, x0, h, hx, hij, ht, hd => by
    have hj : j < l.length := by omega
    have hj0 : j < x0.length := by omega
    have ew : wrap64 ((j : Int) + 1) = ((j + 1 : Nat) : Int) := by unfold wrap64; omega
    have ei : wrap64 ((i : Int) + 1) = ((i + 1 : Nat) : Int) := by unfold wrap64; omega
    rw [List.drop_eq_getElem_cons hj, List.drop_eq_getElem_cons hj0] at hd
    injection hd with hd1 hd2
    by_cases c : l[j].f7 = 3
    · have hc : (l[j].f7 != 3) = false := by simp [c]
      obtain ⟨K, hK⟩ := del_l0 l hl d (j + 1) (i + 1) (x0.set i l[j]) (by omega) (by simp; omega) (by omega) (by
        have hi : i < x0.length := by omega
        have h1 : (x0.set i l[j]).take (i + 1) = x0.take i ++ [l[j]] := by
          rw [take1 (by rw [List.length_set]; exact hi), List.take_set_of_le (Nat.le_refl i), List.getElem_set_self]
        rw [h1, ht, take1 hj]
        unfold rs
        rw [List.filter_append]
        congr 1
        simp [c]) (by rw [List.drop_set_of_lt (by omega)]; exact hd2)
      refine ⟨K + 1, fun k hk => ?_⟩
      obtain ⟨k, rfl⟩ : ∃ k', k = k' + 1 := ⟨k - 1, by omega⟩
      have hk2 : slices_DeleteFunc_Job__job_running_1.l0 k (x0.set i l[j]) ((i + 1 : Nat) : Int) ((j + 1 : Nat) : Int) = some (rs l) := hK k (by omega)
      show slices_DeleteFunc_Job__job_running_1.l0 (k + 1) x0 (i : Int) (j : Int) = _
      rw [slices_DeleteFunc_Job__job_running_1.l0.eq_2, if_pos (by omega), if_pos (by omega), rdJ hj0, hd1, run1, Option.bind_some, hc, if_neg (by decide), if_pos (by omega), if_pos (by omega), ew, ei, Int.toNat_natCast]
      exact hk2
    · have hc : (l[j].f7 != 3) = true := by simp [c]
      obtain ⟨K, hK⟩ := del_l0 l hl d (j + 1) i x0 (by omega) hx (by omega) (by
        rw [ht, take1 hj]
        unfold rs
        rw [List.filter_append]
        simp [c]) hd2
      refine ⟨K + 1, fun k hk => ?_⟩
      obtain ⟨k, rfl⟩ : ∃ k', k = k' + 1 := ⟨k - 1, by omega⟩
      have hk2 : slices_DeleteFunc_Job__job_running_1.l0 k x0 (i : Int) ((j + 1 : Nat) : Int) = some (rs l) := hK k (by omega)
      show slices_DeleteFunc_Job__job_running_1.l0 (k + 1) x0 (i : Int) (j : Int) = _
      rw [slices_DeleteFunc_Job__job_running_1.l0.eq_2, if_pos (by omega), if_pos (by omega), rdJ hj0, hd1, run1, Option.bind_some, hc, if_pos rfl, ew, hk2]
theorem rs_all {l : List S32} (h : ∀ x ∈ l, x.f7 = 3) : rs l = l := List.filter_eq_self.mpr (fun x hx => by simp [h x hx])
theorem rs_len (l : List S32) : (rs l).length ≤ l.length := List.length_filter_le _ _
theorem run_ev (l : List S32) (hl : l.length ≤ 1000) : Ev (fun k => job_running.f k l) (rs l) := by
  obtain ⟨r, ⟨K, hK⟩, hr⟩ := idx_l0 l hl l.length 0 (by omega) (by simp)
  have clone : slices_Clone_Job.f l = some l := by
    unfold slices_Clone_Job.f
    rw [Option.bind_some, if_pos (by simp; omega), List.nil_append]
  rcases hr with ⟨rfl, ha⟩ | ⟨p, rfl, hp, ha, hn⟩
  · refine ⟨K, fun k hk => ?_⟩
    have hk2 : slices_IndexFunc_Job__job_running_1.l0 k l (l.length : Int) ((0 : Nat) : Int) = some (-1) := hK k hk
    show job_running.f k l = _
    unfold job_running.f slices_DeleteFunc_Job__job_running_1.f slices_IndexFunc_Job__job_running_1.f
    rw [clone, Option.bind_some]
    have hk3 : slices_IndexFunc_Job__job_running_1.l0 k l (l.length : Int) 0 = some (-1) := hk2
    rw [hk3, Option.bind_some, if_pos rfl, rs_all ha]
    rfl
  · have ew : wrap64 ((p : Int) + 1) = ((p + 1 : Nat) : Int) := by unfold wrap64; omega
    obtain ⟨K2, hK2⟩ := del_l0 l hl (l.length - (p + 1)) (p + 1) p l (by omega) rfl (by omega) (by
      rw [take1 hp]
      unfold rs
      rw [List.filter_append]
      have h1 : (l.take p).filter (fun x => x.f7 == 3) = l.take p := rs_all ha
      rw [h1]
      simp [hn]) rfl
    refine ⟨K + K2, fun k hk => ?_⟩
    have hk2 : slices_IndexFunc_Job__job_running_1.l0 k l (l.length : Int) ((0 : Nat) : Int) = some (p : Int) := hK k (by omega)
    have hk3 : slices_IndexFunc_Job__job_running_1.l0 k l (l.length : Int) 0 = some (p : Int) := hk2
    have hk4 : slices_DeleteFunc_Job__job_running_1.l0 k l (p : Int) ((p + 1 : Nat) : Int) = some (rs l) := hK2 k (by omega)
    show job_running.f k l = _
    unfold job_running.f slices_DeleteFunc_Job__job_running_1.f slices_IndexFunc_Job__job_running_1.f
    rw [clone, Option.bind_some, hk3, Option.bind_some, if_neg (by omega), ew, hk4]
    rfl
theorem held16 (a : Int) : ∃ v, prebendref16_Held.f a 1125899906842624 = some v := by
  unfold prebendref16_Held.f
  split
  · exact ⟨_, rfl⟩
  · split
    · exact ⟨_, rfl⟩
    · exact ⟨_, rfl⟩
theorem held_l0 (l : List S32) : ∀ (d i : Nat) (acc : List S32), i + d = 24 → acc.length = i → i ≤ l.length → ∃ h, Ev (fun k => prebendref19_Held.l0 k l acc (i : Int)) h ∧ h.length ≤ 24
  | 0, i, acc, hd, ha, hi => by
    refine ⟨acc, ⟨2, fun k hk => ?_⟩, by omega⟩
    obtain ⟨k, rfl⟩ : ∃ k', k = k' + 2 := ⟨k - 2, by omega⟩
    show prebendref19_Held.l0 (k + 1 + 1) l acc (i : Int) = _
    have hj : prebendref19_Held.j1 (k + 1) l acc (i : Int) false = some acc := by rw [prebendref19_Held.j1.eq_2, if_neg (by decide)]
    rw [prebendref19_Held.l0.eq_2, decide_eq_false (show ¬ ((i : Int) < 24) by omega), hj]
    split <;> rfl
  | d + 1, i, acc, hd, ha, hi => by
    by_cases c : i < l.length
    · have ew : wrap64 ((i : Int) + 1) = ((i + 1 : Nat) : Int) := by unfold wrap64; omega
      obtain ⟨u, hu⟩ := held16 (rd_T32 l (i : Int)).f8
      obtain ⟨v, hv⟩ := held16 (rd_T32 l (i : Int)).f3
      obtain ⟨h, ⟨K, hK⟩, hh⟩ := held_l0 l d (i + 1) (acc ++ [(⟨(rd_T32 l (i : Int)).f0, (rd_T32 l (i : Int)).f1, (rd_T32 l (i : Int)).f2, v, (rd_T32 l (i : Int)).f4, (rd_T32 l (i : Int)).f5, (rd_T32 l (i : Int)).f6, (rd_T32 l (i : Int)).f7, u, (rd_T32 l (i : Int)).f9, (rd_T32 l (i : Int)).f10, (rd_T32 l (i : Int)).f11⟩ : S32)]) (by omega) (by simp; omega) (by omega)
      refine ⟨h, ⟨K + 2, fun k hk => ?_⟩, hh⟩
      obtain ⟨k, rfl⟩ : ∃ k', k = k' + 2 := ⟨k - 2, by omega⟩
      have hk2 : prebendref19_Held.l0 k l _ ((i + 1 : Nat) : Int) = some h := hK k (by omega)
      show prebendref19_Held.l0 (k + 1 + 1) l acc (i : Int) = _
      rw [prebendref19_Held.l0.eq_2, if_pos (by omega), decide_eq_true (by omega), prebendref19_Held.j1.eq_2, if_pos rfl, if_pos (by omega), if_pos (by omega), hu, Option.bind_some, hv, Option.bind_some, if_pos (by omega), ew, hk2]
    · refine ⟨acc, ⟨2, fun k hk => ?_⟩, by omega⟩
      obtain ⟨k, rfl⟩ : ∃ k', k = k' + 2 := ⟨k - 2, by omega⟩
      show prebendref19_Held.l0 (k + 1 + 1) l acc (i : Int) = _
      rw [prebendref19_Held.l0.eq_2, if_neg (by omega), prebendref19_Held.j1.eq_2, if_neg (by decide)]
theorem held_ev (l : List S32) : ∃ h, Ev (fun k => prebendref19_Held.f k l) h ∧ h.length ≤ 24 := held_l0 l 24 0 [] (by omega) rfl (by omega)
def due (l : List S32) (now : Int) : List Int := ((isort leD (rs l)).filter (fun x => decide (endOf x ≤ now))).map (·.f0)
theorem due_l0 (r : List S32) (hl : r.length ≤ 1000) (now : Int) (m : Int) (hm : m = (r.length : Int)) : ∀ (d i : Nat) (acc : List Int), i + d = r.length → acc.length ≤ i → Ev (fun k => job_Due.l0 k now acc r m (i : Int)) (acc ++ ((r.drop i).filter (fun x => decide (endOf x ≤ now))).map (·.f0))
  | 0, i, acc, h, ha => by
    refine ⟨1, fun k hk => ?_⟩
    obtain ⟨k, rfl⟩ : ∃ k', k = k' + 1 := ⟨k - 1, by omega⟩
    show job_Due.l0 (k + 1) now acc r m (i : Int) = _
    rw [job_Due.l0.eq_2, if_neg (by omega), List.drop_eq_nil_of_le (by omega)]
    simp [slices_Clip_int.f]
  | d + 1, i, acc, h, ha => by
    have hi : i < r.length := by omega
    have ew : wrap64 ((i : Int) + 1) = ((i + 1 : Nat) : Int) := by unfold wrap64; omega
    by_cases c : endOf r[i] ≤ now
    · obtain ⟨K, hK⟩ := due_l0 r hl now m hm d (i + 1) (acc ++ [r[i].f0]) (by omega) (by simp; omega)
      refine ⟨K + 1, fun k hk => ?_⟩
      obtain ⟨k, rfl⟩ : ∃ k', k = k' + 1 := ⟨k - 1, by omega⟩
      have hk2 : job_Due.l0 k now (acc ++ [r[i].f0]) r m ((i + 1 : Nat) : Int) = some _ := hK k (by omega)
      have c' : wrap64 (r[i].f8 + r[i].f3) ≤ now := c
      show job_Due.l0 (k + 1) now acc r m (i : Int) = _
      rw [job_Due.l0.eq_2, if_pos (by omega), if_pos (by omega), if_pos (by omega), rdJ hi, if_pos c', if_pos (by omega), ew, hk2, List.drop_eq_getElem_cons hi, List.filter_cons, if_pos (by simpa using c), List.map_cons, List.append_assoc, List.singleton_append]
    · obtain ⟨K, hK⟩ := due_l0 r hl now m hm d (i + 1) acc (by omega) (by omega)
      refine ⟨K + 1, fun k hk => ?_⟩
      obtain ⟨k, rfl⟩ : ∃ k', k = k' + 1 := ⟨k - 1, by omega⟩
      have hk2 : job_Due.l0 k now acc r m ((i + 1 : Nat) : Int) = some _ := hK k (by omega)
      have c' : ¬ (wrap64 (r[i].f8 + r[i].f3) ≤ now) := c
      show job_Due.l0 (k + 1) now acc r m (i : Int) = _
      rw [job_Due.l0.eq_2, if_pos (by omega), if_pos (by omega), if_pos (by omega), rdJ hi, if_neg c', ew, hk2, List.drop_eq_getElem_cons hi, List.filter_cons, if_neg (by simpa using c)]
theorem due_ev (l : List S32) (hl : l.length ≤ 1000) (now : Int) : Ev (fun k => job_Due.f k l now) (due l now) := by
  obtain ⟨K1, hK1⟩ := run_ev l hl
  have hr := rs_len l
  obtain ⟨K2, hK2⟩ := sort_ev (rs l) (by omega)
  have hs : (isort leD (rs l)).length = (rs l).length := isort_len _
  obtain ⟨K3, hK3⟩ := due_l0 (isort leD (rs l)) (by omega) now ((rs l).length : Int) (by omega) (isort leD (rs l)).length 0 [] (by omega) (Nat.le_refl _)
  refine ⟨K1 + K2 + K3, fun k hk => ?_⟩
  have h1 : job_running.f k l = some _ := hK1 k (by omega)
  have h2 : slices_SortStableFunc_Job__job_Due_1.f k (rs l) = some _ := hK2 k (by omega)
  have h3 := hK3 k (by omega)
  show job_Due.f k l now = _
  unfold job_Due.f
  rw [h1, Option.bind_some, h2, Option.bind_some]
  exact h3
theorem due_len (l : List S32) (now : Int) : (due l now).length ≤ l.length := by
  unfold due
  rw [List.length_map]
  refine Nat.le_trans (List.length_filter_le _ _) ?_
  rw [isort_len]; exact rs_len l

end Go.Proofs.Ytkhfgflcanmefaa.Pure
end
section
set_option linter.unusedVariables false
set_option linter.unusedSimpArgs false
namespace Go.Proofs.Ytkhfgflcanmefaa.Pure
open Go Go.RowKit Go.Proofs.Ytkhfgflcanmefaa.PAll Go.Proofs.YtkhfgflcanmefaaW.PrintWords Go.Proofs.YtkhfgflcanmefaaW.PrintLast
def GoodP (t n l m : Int) : Prop := 0 ≤ t ∧ t ≤ 1099511627776 ∧ 1 ≤ l ∧ l ≤ 1048576 ∧ 0 ≤ n ∧ n ≤ 31 ∧ 1 ≤ m ∧ n + m ≤ 32
instance (t n l m : Int) : Decidable (GoodP t n l m) := by unfold GoodP; infer_instance
theorem within_eq (a b c : Int) : plane_within.f a b c = some (decide (b ≤ a ∧ a ≤ c)) := by
  unfold plane_within.f; by_cases h : a ≥ b
  · rw [if_pos h]; congr 1; exact decide_eq_decide.mpr ⟨fun x => ⟨h, x⟩, fun x => x.2⟩
  · rw [if_neg h]; congr 1; symm; exact decide_eq_false (fun x => h x.1)
theorem pick_ite (p : Prop) [Decidable p] (x y : Option Bool) : (if decide p = true then x else y) = if p then x else y := by by_cases h : p <;> simp [h]
theorem Good_eq (t n l m : Int) : plane_Good.f t n l m = some (decide (GoodP t n l m)) := by
  unfold plane_Good.f GoodP
  simp only [within_eq, Option.bind_some, pick_ite]
  by_cases h1 : 0 ≤ t ∧ t ≤ 1099511627776
  · rw [if_pos h1]
    by_cases h2 : 1 ≤ l ∧ l ≤ 1048576
    · rw [if_pos h2]
      by_cases h3 : 0 ≤ n ∧ n ≤ 31
      · rw [if_pos h3]; congr 1; apply decide_eq_decide.mpr
        unfold wrap64; omega
      · rw [if_neg h3]; congr 1; symm; apply decide_eq_false; omega
    · rw [if_neg h2]; congr 1; symm; apply decide_eq_false; omega
  · rw [if_neg h1]; congr 1; symm; apply decide_eq_false; omega
theorem in_eq (a b c : Int) : prebendref02_in.f a b c = some (decide (b ≤ a ∧ a ≤ c)) := by
  unfold prebendref02_in.f; by_cases h : a ≥ b
  · rw [if_pos h]; congr 1; exact decide_eq_decide.mpr ⟨fun x => ⟨h, x⟩, fun x => x.2⟩
  · rw [if_neg h]; congr 1; symm; exact decide_eq_false (fun x => h x.1)
theorem and_one (x : Int) : Go.bits .and .i64 x 1 = 0 ∨ Go.bits .and .i64 x 1 = 1 := by
  have h : (BitVec.ofInt 64 x &&& BitVec.ofInt 64 1).toNat = (BitVec.ofInt 64 x).toNat % 2 := by
    rw [BitVec.toNat_and]; exact Nat.and_one_is_mod _
  have e : Go.bits .and .i64 x 1 = IntKind.i64.wrap (((BitVec.ofInt 64 x).toNat % 2 : Nat) : Int) := by
    rw [← h]; rfl
  rw [e, IntKind.wrap_i64]
  omega
theorem bit01 (m n : Int) : bitOf m n = 0 ∨ bitOf m n = 1 := and_one _
theorem u64_small (n : Int) (h0 : 0 ≤ n) (h1 : n < 64) : IntKind.u64.wrap n = n := by
  simp [IntKind.wrap, IntKind.bits, IntKind.signed]; omega
theorem w64_small (n : Int) (h0 : -64 ≤ n) (h1 : n < 4398046511104) : wrap64 n = n := by unfold wrap64; omega
theorem up_spec (m t : Int) : ∀ d n k : Nat, n + d = 32 → d < k → ∃ p : Nat, plane_Rows.up k t m (n : Int) = some (p : Int) ∧ n ≤ p ∧ p ≤ 32 ∧ (∀ i : Nat, n ≤ i → i < p → bitOf m i = t) ∧ (p < 32 → bitOf m p ≠ t) := by
  intro d
  induction d with
  | zero =>
    intro n k hn hk
    obtain ⟨k, rfl⟩ : ∃ j, k = j + 1 := ⟨k - 1, by omega⟩
    simp only [plane_Rows.up]
    rw [if_neg (by omega)]
    exact ⟨n, rfl, Nat.le_refl _, by omega, fun i a b => by omega, fun h => by omega⟩
  | succ d ih =>
    intro n k hn hk
    obtain ⟨k, rfl⟩ : ∃ j, k = j + 1 := ⟨k - 1, by omega⟩
    simp only [plane_Rows.up]
    rw [if_pos (by omega)]
    by_cases h : bitOf m n = t
    · rw [if_pos h]
      obtain ⟨p, e, h1, h2, h3, h4⟩ := ih (n + 1) k (by omega) (by omega)
      refine ⟨p, by rw [← e]; rfl, by omega, h2, ?_, h4⟩
      intro i a b
      by_cases hi : i = n
      · subst hi; exact h
      · exact h3 i (by omega) b
    · rw [if_neg h]
      exact ⟨n, rfl, Nat.le_refl _, by omega, fun i a b => by omega, fun _ => h⟩
theorem ref_zero (k : Nat) (a b m : Int) (out : List S63) (n : Nat) (hn : n < 32) (hb : bitOf m n = 0) : prebendref02_Rows.l0 (k + 1) a b m out (n : Int) = prebendref02_Rows.l0 k a b m out ((n + 1 : Nat) : Int) := by
  unfold bitOf at hb
  conv => lhs; simp only [prebendref02_Rows.l0]
  rw [if_pos (by omega), u64_small _ (by omega) (by omega), if_pos (by omega), if_pos hb, w64_small _ (by omega) (by omega)]
  rfl
theorem ref_first (k : Nat) (a b m : Int) (out : List S63) (n : Nat) (hn : n < 32) (hb : bitOf m n = 1) (hp : n = 0 ∨ bitOf m ((n - 1 : Nat) : Int) = 0) (hl : out.length < 4398046511104) : prebendref02_Rows.l0 (k + 1) a b m out (n : Int) = prebendref02_Rows.l0 k a b m (out ++ [(⟨a, n, b, 1⟩ : S63)]) ((n + 1 : Nat) : Int) := by
  unfold bitOf at hb hp
  conv => lhs; simp only [prebendref02_Rows.l0]
  rw [if_pos (by omega), u64_small _ (by omega) (by omega), if_pos (by omega), hb, if_neg (by omega), w64_small ((n : Int) + 1) (by omega) (by omega)]
  by_cases h0 : n = 0
  · rw [if_neg (by omega), if_pos hl] <;> rfl
  · have e : wrap64 ((n : Int) - 1) = ((n - 1 : Nat) : Int) := by rw [w64_small _ (by omega) (by omega)]; omega
    have hq := hp.resolve_left h0
    rw [if_pos (by omega), e, u64_small _ (by omega) (by omega), if_pos (by omega), hq, if_neg (by omega), if_pos hl] <;> rfl
theorem ref_more (k : Nat) (a b m : Int) (o : List S63) (x : S63) (n : Nat) (hn : n < 32) (h0 : 0 < n) (hb : bitOf m n = 1) (hp : bitOf m ((n - 1 : Nat) : Int) = 1) (hl : o.length < 1000) : prebendref02_Rows.l0 (k + 1) a b m (o ++ [x]) (n : Int) = prebendref02_Rows.l0 k a b m (o ++ [(⟨x.f0, x.f1, x.f2, wrap64 (x.f3 + 1)⟩ : S63)]) ((n + 1 : Nat) : Int) := by
  unfold bitOf at hb hp
  conv => lhs; simp only [prebendref02_Rows.l0]
  have e : wrap64 ((n : Int) - 1) = ((n - 1 : Nat) : Int) := by rw [w64_small _ (by omega) (by omega)]; omega
  have el : wrap64 (((o ++ [x]).length : Int) - 1) = (o.length : Int) := by rw [List.length_append, List.length_singleton, w64_small _ (by omega) (by omega)]; omega
  have er : rd_T63 (o ++ [x]) (o.length : Int) = x := by simp [rd_T63]
  rw [if_pos (by omega), u64_small _ (by omega) (by omega), if_pos (by omega), hb, if_neg (by omega), w64_small ((n : Int) + 1) (by omega) (by omega), if_pos (by omega), e, u64_small _ (by omega) (by omega), if_pos (by omega), hp, if_pos rfl, el, if_pos (by omega), if_pos (by simp; omega), er]
  simp
theorem ref_zeros (a b m : Int) (out : List S63) : ∀ d n k : Nat, n + d ≤ 32 → (∀ i : Nat, n ≤ i → i < n + d → bitOf m i = 0) → prebendref02_Rows.l0 (k + d) a b m out (n : Int) = prebendref02_Rows.l0 k a b m out ((n + d : Nat) : Int) := by
  intro d
  induction d with
  | zero => intro n k _ _; rfl
  | succ d ih =>
    intro n k hn h
    rw [show k + (d + 1) = (k + d) + 1 from rfl, ref_zero _ _ _ _ _ n (by omega) (h n (by omega) (by omega)), ih (n + 1) k (by omega) (fun i x y => h i (by omega) (by omega))]
    congr 2; omega
theorem ref_ones (a b m : Int) (o : List S63) (x y z : Int) (hl : o.length < 1000) : ∀ d n k : Nat, ∀ c : Int, n + d ≤ 32 → 0 < n → 0 ≤ c → c + d < 1000 → (∀ i : Nat, n - 1 ≤ i → i < n + d → bitOf m i = 1) → prebendref02_Rows.l0 (k + d) a b m (o ++ [(⟨x, y, z, c⟩ : S63)]) (n : Int) = prebendref02_Rows.l0 k a b m (o ++ [(⟨x, y, z, c + d⟩ : S63)]) ((n + d : Nat) : Int) := by
  intro d
  induction d with
  | zero => intro n k c _ _ _ _ _; simp
  | succ d ih =>
    intro n k c hn h0 hc hc2 h
    rw [show k + (d + 1) = (k + d) + 1 from rfl, ref_more _ _ _ _ _ _ n (by omega) h0 (h n (by omega) (by omega)) (h (n - 1) (by omega) (by omega)) hl, w64_small _ (by simp; omega) (by simp; omega)]
    simp only []
    rw [ih (n + 1) k (c + 1) (by omega) (by omega) (by omega) (by omega) (fun i p q => h i (by omega) (by omega)), show c + 1 + (d : Int) = c + ((d + 1 : Nat) : Int) by omega, show n + 1 + d = n + (d + 1) by omega]
theorem rows_same (a b m : Int) : ∀ k n : Nat, ∀ out : List S63, n ≤ 32 → 33 - n ≤ k → out.length + (33 - n) ≤ 40 → (n = 0 ∨ n = 32 ∨ bitOf m ((n - 1 : Nat) : Int) = 0 ∨ bitOf m n = 0) →
    ∃ r : List S63, r.length ≤ 40 ∧ plane_Rows.l k a b m out (n : Int) = some r ∧ ∀ j, prebendref02_Rows.l0 (j + (33 - n)) a b m out (n : Int) = some r := by
  intro k
  induction k with
  | zero => intro n out h1 h2; omega
  | succ k ih =>
    intro n out h1 h2 hl hc
    obtain ⟨p, e, p1, p2, p3, p4⟩ := up_spec m 0 (32 - n) n 40 (by omega) (by omega)
    simp only [plane_Rows.l]
    rw [show plane_Rows.up 40 0 m (n : Int) = some (p : Int) from e, Option.bind_some]
    have hz : ∀ j, prebendref02_Rows.l0 (j + (33 - n)) a b m out (n : Int) = prebendref02_Rows.l0 (j + (33 - p)) a b m out (p : Int) := by
      intro j
      have := ref_zeros a b m out (p - n) n (j + (33 - p)) (by omega) (fun i x y => p3 i x (by omega))
      rw [show j + (33 - p) + (p - n) = j + (33 - n) by omega, show n + (p - n) = p by omega] at this
      exact this
    by_cases hp : p = 32
    · subst hp
      rw [if_pos (show ((32 : Nat) : Int) = 32 from rfl)]
      refine ⟨out, by omega, rfl, fun j => ?_⟩
      rw [hz j]
      show prebendref02_Rows.l0 (j + 1) a b m out 32 = _
      simp only [prebendref02_Rows.l0]
      rw [if_neg (by omega)]
    · rw [if_neg (by omega)]
      have hp1 : bitOf m p = 1 := (bit01 m p).resolve_left (p4 (by omega))
      have hprev : p = 0 ∨ bitOf m ((p - 1 : Nat) : Int) = 0 := by
        by_cases hpn : p = n
        · subst hpn
          rcases hc with h | h | h | h
          · exact .inl h
          · exact absurd h hp
          · exact .inr h
          · rw [hp1] at h; omega
        · exact .inr (p3 (p - 1) (by omega) (by omega))
      obtain ⟨q, e2, q1, q2, q3, q4⟩ := up_spec m 1 (32 - p) p 40 (by omega) (by omega)
      rw [show plane_Rows.up 40 1 m (p : Int) = some (q : Int) from e2, Option.bind_some]
      have hqp : p < q := by
        by_cases hq : q = p
        · exact absurd hp1 (by have := q4 (by omega); rw [hq] at this; exact this)
        · omega
      obtain ⟨r, r1, r2, r3⟩ := ih q (out ++ [(⟨a, p, b, (q : Int) - p⟩ : S63)]) q2 (by omega) (by simp; omega) (by
        by_cases h32 : q = 32
        · exact .inr (.inl h32)
        · exact .inr (.inr (.inr ((bit01 m q).resolve_right (q4 (by omega))))))
      refine ⟨r, r1, r2, fun j => ?_⟩
      rw [hz j, show j + (33 - p) = (j + (32 - p)) + 1 by omega, ref_first _ a b m out p (by omega) hp1 hprev (by omega)]
      have ho := ref_ones a b m out a p b (by omega) (q - (p + 1)) (p + 1) (j + (33 - q)) 1 (by omega) (by omega) (by omega) (by omega) (fun i x y => q3 i (by omega) (by omega))
      rw [show j + (33 - q) + (q - (p + 1)) = j + (32 - p) by omega, show p + 1 + (q - (p + 1)) = q by omega, show (1 : Int) + ((q - (p + 1) : Nat) : Int) = (q : Int) - p by omega] at ho
      rw [ho]
      exact r3 j
theorem Rows_eq (a b m : Int) : ∃ r : List S63, r.length ≤ 40 ∧ plane_Rows.f a b m = some r ∧ ∀ k, 40 ≤ k → prebendref02_Rows.f k a b m = some r := by
  unfold plane_Rows.f prebendref02_Rows.f
  simp only [Good_eq, in_eq, Option.bind_some]
  by_cases h : GoodP a 0 b 1
  · have h' := h
    unfold GoodP at h'
    obtain ⟨r, r1, r2, r3⟩ := rows_same a b m 40 0 [] (by omega) (by omega) (by simp) (.inl rfl)
    refine ⟨r, r1, by rw [if_pos (decide_eq_true h)]; exact r2, ?_⟩
    intro k hk
    obtain ⟨k, rfl⟩ : ∃ j, k = (j + (33 - 0)) + 1 := ⟨k - 34, by omega⟩
    rw [if_pos (decide_eq_true (show 0 ≤ a ∧ a ≤ 1099511627776 from ⟨h'.1, h'.2.1⟩)), decide_eq_true (show 1 ≤ b ∧ b ≤ 1048576 from ⟨h'.2.2.1, h'.2.2.2.1⟩)]
    rw [prebendref02_Rows.j0, if_neg (by simp)]
    exact r3 k
  · refine ⟨[], by simp, by rw [if_neg (by simpa using h)], ?_⟩
    intro k hk
    obtain ⟨k, rfl⟩ : ∃ j, k = j + 1 := ⟨k - 1, by omega⟩
    unfold GoodP at h
    by_cases h1 : 0 ≤ a ∧ a ≤ 1099511627776
    · rw [if_pos (decide_eq_true h1), decide_eq_false (show ¬ (1 ≤ b ∧ b ≤ 1048576) by omega), prebendref02_Rows.j0, if_pos (by simp)]
    · rw [if_neg (by simpa using h1), prebendref02_Rows.j0, if_pos rfl]

theorem find_l0 (l : List S32) (hl : l.length ≤ 1000) (id : Int) : ∀ (d i : Nat), i + d = l.length → ∃ r, Ev (fun k => @slices_IndexFunc_Job__job_Find_1.l0 ⟨id⟩ k l (l.length : Int) (i : Int)) r ∧ Ev (fun k => prebendref19_Find.l0 k l id (i : Int)) r
  | 0, i, h => by
    refine ⟨-1, ⟨1, fun k hk => ?_⟩, ⟨1, fun k hk => ?_⟩⟩
    · obtain ⟨k, rfl⟩ : ∃ k', k = k' + 1 := ⟨k - 1, by omega⟩
      show @slices_IndexFunc_Job__job_Find_1.l0 ⟨id⟩ (k + 1) l (l.length : Int) (i : Int) = _
      rw [@slices_IndexFunc_Job__job_Find_1.l0.eq_2 ⟨id⟩, if_neg (by omega)]
    · obtain ⟨k, rfl⟩ : ∃ k', k = k' + 1 := ⟨k - 1, by omega⟩
      show prebendref19_Find.l0 (k + 1) l id (i : Int) = _
      rw [prebendref19_Find.l0.eq_2, if_neg (by omega)]
  | d + 1, i, h => by
    have hi : i < l.length := by omega
    have g1 : (i : Int) < (l.length : Int) := by omega
    have g0 : (0 : Int) ≤ (i : Int) := by omega
    have ew : wrap64 ((i : Int) + 1) = ((i + 1 : Nat) : Int) := by unfold wrap64; omega
    have lit : ∀ x : S32, @job_Find_1.f ⟨id⟩ x.f0 x.f1 x.f2 x.f3 x.f4 x.f5 x.f6 x.f7 x.f8 x.f9 x.f10 x.f11 = some (x.f0 == id) := fun _ => rfl
    by_cases c : l[i].f0 = id
    · have hc : (l[i].f0 == id) = true := by simp [c]
      refine ⟨i, ⟨1, fun k hk => ?_⟩, ⟨1, fun k hk => ?_⟩⟩
      · obtain ⟨k, rfl⟩ : ∃ k', k = k' + 1 := ⟨k - 1, by omega⟩
        show @slices_IndexFunc_Job__job_Find_1.l0 ⟨id⟩ (k + 1) l (l.length : Int) (i : Int) = _
        rw [@slices_IndexFunc_Job__job_Find_1.l0.eq_2 ⟨id⟩, if_pos g1, if_pos g0, if_pos g1, rdJ hi, lit, Option.bind_some, hc, if_pos rfl]
      · obtain ⟨k, rfl⟩ : ∃ k', k = k' + 1 := ⟨k - 1, by omega⟩
        show prebendref19_Find.l0 (k + 1) l id (i : Int) = _
        rw [prebendref19_Find.l0.eq_2, if_pos g1, if_pos g0, rdJ hi, if_pos c]
    · have hc : (l[i].f0 == id) = false := by simp [c]
      obtain ⟨r, ⟨K, hK⟩, ⟨K2, hK2⟩⟩ := find_l0 l hl id d (i + 1) (by omega)
      refine ⟨r, ⟨K + 1, fun k hk => ?_⟩, ⟨K2 + 1, fun k hk => ?_⟩⟩
      · obtain ⟨k, rfl⟩ : ∃ k', k = k' + 1 := ⟨k - 1, by omega⟩
        have hk2 : @slices_IndexFunc_Job__job_Find_1.l0 ⟨id⟩ k l (l.length : Int) ((i + 1 : Nat) : Int) = some r := hK k (by omega)
        show @slices_IndexFunc_Job__job_Find_1.l0 ⟨id⟩ (k + 1) l (l.length : Int) (i : Int) = _
        rw [@slices_IndexFunc_Job__job_Find_1.l0.eq_2 ⟨id⟩, if_pos g1, if_pos g0, if_pos g1, rdJ hi, lit, Option.bind_some, hc, if_neg (by decide), ew, hk2]
      · obtain ⟨k, rfl⟩ : ∃ k', k = k' + 1 := ⟨k - 1, by omega⟩
        have hk2 : prebendref19_Find.l0 k l id ((i + 1 : Nat) : Int) = some r := hK2 k (by omega)
        show prebendref19_Find.l0 (k + 1) l id (i : Int) = _
        rw [prebendref19_Find.l0.eq_2, if_pos g1, if_pos g0, rdJ hi, if_neg c, ew, hk2]
theorem find_ev (l : List S32) (hl : l.length ≤ 1000) (id : Int) : ∃ r, Ev (fun k => job_Find.f k l id) r ∧ Ev (fun k => prebendref19_Find.f k l id) r := by
  obtain ⟨r, ⟨K, hK⟩, h2⟩ := find_l0 l hl id l.length 0 (by omega)
  refine ⟨r, ⟨K, fun k hk => ?_⟩, h2⟩
  have h1 : @slices_IndexFunc_Job__job_Find_1.l0 ⟨id⟩ k l (l.length : Int) ((0 : Nat) : Int) = some r := hK k hk
  have h1' : @slices_IndexFunc_Job__job_Find_1.l0 ⟨id⟩ k l (l.length : Int) 0 = some r := h1
  show job_Find.f k l id = some r
  unfold job_Find.f slices_IndexFunc_Job__job_Find_1.f
  rw [h1']
  rfl
def masks (l : List S32) (a : Int) : Int := l.foldl (fun a x => Go.bits .or .i64 a x.f9) a
theorem mask_l0 (r : List S32) (hl : r.length ≤ 1000) : ∀ (d i : Nat) (a : Int), i + d = r.length → Ev (fun k => job_Mask.l0 k a r (r.length : Int) (i : Int)) (masks (r.drop i) a)
  | 0, i, a, h => by
    refine ⟨1, fun k hk => ?_⟩
    obtain ⟨k, rfl⟩ : ∃ k', k = k' + 1 := ⟨k - 1, by omega⟩
    show job_Mask.l0 (k + 1) a r (r.length : Int) (i : Int) = _
    rw [job_Mask.l0.eq_2, if_neg (by omega), List.drop_eq_nil_of_le (by omega)]
    rfl
  | d + 1, i, a, h => by
    have hi : i < r.length := by omega
    have ew : wrap64 ((i : Int) + 1) = ((i + 1 : Nat) : Int) := by unfold wrap64; omega
    obtain ⟨K, hK⟩ := mask_l0 r hl d (i + 1) (Go.bits .or .i64 a r[i].f9) (by omega)
    refine ⟨K + 1, fun k hk => ?_⟩
    obtain ⟨k, rfl⟩ : ∃ k', k = k' + 1 := ⟨k - 1, by omega⟩
    have hk2 : job_Mask.l0 k (Go.bits .or .i64 a r[i].f9) r (r.length : Int) ((i + 1 : Nat) : Int) = some _ := hK k (by omega)
    show job_Mask.l0 (k + 1) a r (r.length : Int) (i : Int) = _
    rw [job_Mask.l0.eq_2, if_pos (by omega), if_pos (by omega), if_pos (by omega), rdJ hi, ew, hk2, List.drop_eq_getElem_cons hi]
    rfl
theorem rs_drop {l : List S32} {i : Nat} (hi : i < l.length) : rs (l.drop i) = if l[i].f7 = 3 then l[i] :: rs (l.drop (i + 1)) else rs (l.drop (i + 1)) := by
  rw [List.drop_eq_getElem_cons hi]
  unfold rs
  rw [List.filter_cons]
  by_cases c : l[i].f7 = 3
  · rw [if_pos (by simp [c]), if_pos c]
  · rw [if_neg (by simp [c]), if_neg c]
theorem rmask_l0 (l : List S32) (hl : l.length ≤ 1000) : ∀ (d i : Nat) (a : Int), i + d = l.length → Ev (fun k => prebendref19_Mask.l0 k l a (i : Int)) (masks (rs (l.drop i)) a)
  | 0, i, a, h => by
    refine ⟨1, fun k hk => ?_⟩
    obtain ⟨k, rfl⟩ : ∃ k', k = k' + 1 := ⟨k - 1, by omega⟩
    show prebendref19_Mask.l0 (k + 1) l a (i : Int) = _
    rw [prebendref19_Mask.l0.eq_2, if_neg (by omega), List.drop_eq_nil_of_le (by omega)]
    rfl
  | d + 1, i, a, h => by
    have hi : i < l.length := by omega
    have ew : wrap64 ((i : Int) + 1) = ((i + 1 : Nat) : Int) := by unfold wrap64; omega
    by_cases c : l[i].f7 = 3
    · obtain ⟨K, hK⟩ := rmask_l0 l hl d (i + 1) (Go.bits .or .i64 a l[i].f9) (by omega)
      refine ⟨K + 1, fun k hk => ?_⟩
      obtain ⟨k, rfl⟩ : ∃ k', k = k' + 1 := ⟨k - 1, by omega⟩
      have hk2 : prebendref19_Mask.l0 k l (Go.bits .or .i64 a l[i].f9) ((i + 1 : Nat) : Int) = some _ := hK k (by omega)
      show prebendref19_Mask.l0 (k + 1) l a (i : Int) = _
      rw [prebendref19_Mask.l0.eq_2, if_pos (by omega), if_pos (by omega), rdJ hi, if_pos c, ew, hk2, rs_drop hi, if_pos c]
      rfl
    · obtain ⟨K, hK⟩ := rmask_l0 l hl d (i + 1) a (by omega)
      refine ⟨K + 1, fun k hk => ?_⟩
      obtain ⟨k, rfl⟩ : ∃ k', k = k' + 1 := ⟨k - 1, by omega⟩
      have hk2 : prebendref19_Mask.l0 k l a ((i + 1 : Nat) : Int) = some _ := hK k (by omega)
      show prebendref19_Mask.l0 (k + 1) l a (i : Int) = _
      rw [prebendref19_Mask.l0.eq_2, if_pos (by omega), if_pos (by omega), rdJ hi, if_neg c, ew, hk2, rs_drop hi, if_neg c]
theorem mask_ev (l : List S32) (hl : l.length ≤ 1000) : Ev (fun k => job_Mask.f k l) (masks (rs l) 0) := by
  obtain ⟨K1, hK1⟩ := run_ev l hl
  have hr := rs_len l
  obtain ⟨K2, hK2⟩ := mask_l0 (rs l) (by omega) (rs l).length 0 0 (by omega)
  refine ⟨K1 + K2, fun k hk => ?_⟩
  have h1 : job_running.f k l = some _ := hK1 k (by omega)
  have h2 := hK2 k (by omega)
  show job_Mask.f k l = _
  unfold job_Mask.f
  rw [h1, Option.bind_some]
  exact h2
theorem rmask_ev (l : List S32) (hl : l.length ≤ 1000) : Ev (fun k => prebendref19_Mask.f k l) (masks (rs l) 0) := rmask_l0 l hl l.length 0 0 (by omega)
def busyOf (x : S32) : S59 := ⟨wrap64 (x.f8 + x.f3), x.f2⟩
theorem busy_l0 (r : List S32) (hl : r.length ≤ 1000) : ∀ (d i : Nat) (acc : List S59), i + d = r.length → acc.length = i → Ev (fun k => job_Busy.l0 k acc r (r.length : Int) (i : Int)) (acc ++ (r.drop i).map busyOf)
  | 0, i, acc, h, ha => by
    refine ⟨1, fun k hk => ?_⟩
    obtain ⟨k, rfl⟩ : ∃ k', k = k' + 1 := ⟨k - 1, by omega⟩
    show job_Busy.l0 (k + 1) acc r (r.length : Int) (i : Int) = _
    rw [job_Busy.l0.eq_2, if_neg (by omega), List.drop_eq_nil_of_le (by omega)]
    simp [slices_Clip_Busy.f]
  | d + 1, i, acc, h, ha => by
    have hi : i < r.length := by omega
    have ew : wrap64 ((i : Int) + 1) = ((i + 1 : Nat) : Int) := by unfold wrap64; omega
    obtain ⟨K, hK⟩ := busy_l0 r hl d (i + 1) (acc ++ [busyOf r[i]]) (by omega) (by simp; omega)
    refine ⟨K + 1, fun k hk => ?_⟩
    obtain ⟨k, rfl⟩ : ∃ k', k = k' + 1 := ⟨k - 1, by omega⟩
    have hk2 : job_Busy.l0 k (acc ++ [(⟨wrap64 (r[i].f8 + r[i].f3), r[i].f2⟩ : S59)]) r (r.length : Int) ((i + 1 : Nat) : Int) = some _ := hK k (by omega)
    show job_Busy.l0 (k + 1) acc r (r.length : Int) (i : Int) = _
    rw [job_Busy.l0.eq_2, if_pos (by omega), if_pos (by omega), if_pos (by omega), if_pos (by omega), rdJ hi, ew, hk2, List.drop_eq_getElem_cons hi, List.map_cons, List.append_assoc, List.singleton_append]
theorem rbusy_l0 (l : List S32) (hl : l.length ≤ 1000) : ∀ (d i : Nat) (acc : List S59), i + d = l.length → acc.length ≤ i → Ev (fun k => prebendref19_Busy.l0 k l acc (i : Int)) (acc ++ (rs (l.drop i)).map busyOf)
  | 0, i, acc, h, ha => by
    refine ⟨1, fun k hk => ?_⟩
    obtain ⟨k, rfl⟩ : ∃ k', k = k' + 1 := ⟨k - 1, by omega⟩
    show prebendref19_Busy.l0 (k + 1) l acc (i : Int) = _
    rw [prebendref19_Busy.l0.eq_2, if_neg (by omega), List.drop_eq_nil_of_le (by omega)]
    simp [rs]
  | d + 1, i, acc, h, ha => by
    have hi : i < l.length := by omega
    have ew : wrap64 ((i : Int) + 1) = ((i + 1 : Nat) : Int) := by unfold wrap64; omega
    by_cases c : l[i].f7 = 3
    · obtain ⟨K, hK⟩ := rbusy_l0 l hl d (i + 1) (acc ++ [busyOf l[i]]) (by omega) (by simp; omega)
      refine ⟨K + 1, fun k hk => ?_⟩
      obtain ⟨k, rfl⟩ : ∃ k', k = k' + 1 := ⟨k - 1, by omega⟩
      have hk2 : prebendref19_Busy.l0 k l (acc ++ [(⟨wrap64 (l[i].f8 + l[i].f3), l[i].f2⟩ : S59)]) ((i + 1 : Nat) : Int) = some _ := hK k (by omega)
      show prebendref19_Busy.l0 (k + 1) l acc (i : Int) = _
      rw [prebendref19_Busy.l0.eq_2, if_pos (by omega), if_pos (by omega), rdJ hi, if_pos c, if_pos (by omega), ew, hk2, rs_drop hi, if_pos c, List.map_cons, List.append_assoc, List.singleton_append]
    · obtain ⟨K, hK⟩ := rbusy_l0 l hl d (i + 1) acc (by omega) (by omega)
      refine ⟨K + 1, fun k hk => ?_⟩
      obtain ⟨k, rfl⟩ : ∃ k', k = k' + 1 := ⟨k - 1, by omega⟩
      have hk2 : prebendref19_Busy.l0 k l acc ((i + 1 : Nat) : Int) = some _ := hK k (by omega)
      show prebendref19_Busy.l0 (k + 1) l acc (i : Int) = _
      rw [prebendref19_Busy.l0.eq_2, if_pos (by omega), if_pos (by omega), rdJ hi, if_neg c, ew, hk2, rs_drop hi, if_neg c]
theorem busy_ev (l : List S32) (hl : l.length ≤ 1000) : Ev (fun k => job_Busy.f k l) ((rs l).map busyOf) := by
  obtain ⟨K1, hK1⟩ := run_ev l hl
  have hr := rs_len l
  obtain ⟨K2, hK2⟩ := busy_l0 (rs l) (by omega) (rs l).length 0 [] (by omega) rfl
  refine ⟨K1 + K2, fun k hk => ?_⟩
  have h1 : job_running.f k l = some _ := hK1 k (by omega)
  have h2 := hK2 k (by omega)
  show job_Busy.f k l = _
  unfold job_Busy.f
  rw [h1, Option.bind_some]
  exact h2
theorem rbusy_ev (l : List S32) (hl : l.length ≤ 1000) : Ev (fun k => prebendref19_Busy.f k l) ((rs l).map busyOf) := rbusy_l0 l hl l.length 0 [] (by omega) (Nat.le_refl _)
theorem same_l0 (b : List S59) (hl : b.length ≤ 1000) : ∀ (d i : Nat), i + d = b.length → Ev (fun k => prebendref19_SameBusy.l0 k b b (i : Int)) true
  | 0, i, h => by
    refine ⟨1, fun k hk => ?_⟩
    obtain ⟨k, rfl⟩ : ∃ k', k = k' + 1 := ⟨k - 1, by omega⟩
    show prebendref19_SameBusy.l0 (k + 1) b b (i : Int) = _
    rw [prebendref19_SameBusy.l0.eq_2, if_neg (by omega)]
  | d + 1, i, h => by
    have ew : wrap64 ((i : Int) + 1) = ((i + 1 : Nat) : Int) := by unfold wrap64; omega
    obtain ⟨K, hK⟩ := same_l0 b hl d (i + 1) (by omega)
    refine ⟨K + 1, fun k hk => ?_⟩
    obtain ⟨k, rfl⟩ : ∃ k', k = k' + 1 := ⟨k - 1, by omega⟩
    have hk2 : prebendref19_SameBusy.l0 k b b ((i + 1 : Nat) : Int) = some true := hK k (by omega)
    show prebendref19_SameBusy.l0 (k + 1) b b (i : Int) = _
    rw [prebendref19_SameBusy.l0.eq_2, if_pos (by omega), if_pos (by omega), if_pos (by omega), if_neg (by simp), ew, hk2]
theorem same_ev (b : List S59) (hl : b.length ≤ 1000) : Ev (fun k => prebendref19_SameBusy.f k b b) true := by
  obtain ⟨K, hK⟩ := same_l0 b hl b.length 0 (by omega)
  refine ⟨K, fun k hk => ?_⟩
  show prebendref19_SameBusy.f k b b = _
  unfold prebendref19_SameBusy.f
  rw [if_pos rfl]
  exact hK k hk
def rowsO (x : S32) : List S63 := (plane_Rows.f x.f8 x.f3 x.f9).getD []
theorem rows_x (x : S32) : plane_Rows.f x.f8 x.f3 x.f9 = some (rowsO x) ∧ (rowsO x).length ≤ 40 ∧ ∀ k, 40 ≤ k → prebendref02_Rows.f k x.f8 x.f3 x.f9 = some (rowsO x) := by
  obtain ⟨r, h1, h2, h3⟩ := Rows_eq x.f8 x.f3 x.f9
  have e : rowsO x = r := by unfold rowsO; rw [h2]; rfl
  rw [e]
  exact ⟨h2, h1, h3⟩
theorem boxes_l0 (r : List S32) (hl : r.length ≤ 1000) : ∀ (d i : Nat) (acc : List S63), i + d = r.length → acc.length ≤ 40 * i → Ev (fun k => job_Boxes.l0 k acc r (r.length : Int) (i : Int)) (acc ++ (r.drop i).flatMap rowsO)
  | 0, i, acc, h, ha => by
    refine ⟨1, fun k hk => ?_⟩
    obtain ⟨k, rfl⟩ : ∃ k', k = k' + 1 := ⟨k - 1, by omega⟩
    show job_Boxes.l0 (k + 1) acc r (r.length : Int) (i : Int) = _
    rw [job_Boxes.l0.eq_2, if_neg (by omega), List.drop_eq_nil_of_le (by omega)]
    simp [slices_Clip_Box.f]
  | d + 1, i, acc, h, ha => by
    have hi : i < r.length := by omega
    have ew : wrap64 ((i : Int) + 1) = ((i + 1 : Nat) : Int) := by unfold wrap64; omega
    obtain ⟨q1, q2, q3⟩ := rows_x r[i]
    obtain ⟨K, hK⟩ := boxes_l0 r hl d (i + 1) (acc ++ rowsO r[i]) (by omega) (by rw [List.length_append]; omega)
    refine ⟨K + 1, fun k hk => ?_⟩
    obtain ⟨k, rfl⟩ : ∃ k', k = k' + 1 := ⟨k - 1, by omega⟩
    have hk2 : job_Boxes.l0 k (acc ++ rowsO r[i]) r (r.length : Int) ((i + 1 : Nat) : Int) = some _ := hK k (by omega)
    show job_Boxes.l0 (k + 1) acc r (r.length : Int) (i : Int) = _
    rw [job_Boxes.l0.eq_2, if_pos (by omega), if_pos (by omega), if_pos (by omega), rdJ hi, q1, Option.bind_some, if_pos (by omega), ew, hk2, List.drop_eq_getElem_cons hi, List.flatMap_cons, List.append_assoc]
theorem rboxes_l0 (l : List S32) (hl : l.length ≤ 1000) : ∀ (d i : Nat) (acc : List S63), i + d = l.length → acc.length ≤ 40 * i → Ev (fun k => prebendref19_Boxes.l0 k l acc (i : Int)) (acc ++ (rs (l.drop i)).flatMap rowsO)
  | 0, i, acc, h, ha => by
    refine ⟨1, fun k hk => ?_⟩
    obtain ⟨k, rfl⟩ : ∃ k', k = k' + 1 := ⟨k - 1, by omega⟩
    show prebendref19_Boxes.l0 (k + 1) l acc (i : Int) = _
    rw [prebendref19_Boxes.l0.eq_2, if_neg (by omega), List.drop_eq_nil_of_le (by omega)]
    simp [rs]
  | d + 1, i, acc, h, ha => by
    have hi : i < l.length := by omega
    have ew : wrap64 ((i : Int) + 1) = ((i + 1 : Nat) : Int) := by unfold wrap64; omega
    by_cases c : l[i].f7 = 3
    · obtain ⟨q1, q2, q3⟩ := rows_x l[i]
      obtain ⟨K, hK⟩ := rboxes_l0 l hl d (i + 1) (acc ++ rowsO l[i]) (by omega) (by rw [List.length_append]; omega)
      refine ⟨K + 41, fun k hk => ?_⟩
      obtain ⟨k, rfl⟩ : ∃ k', k = k' + 1 := ⟨k - 1, by omega⟩
      have hk2 : prebendref19_Boxes.l0 k l (acc ++ rowsO l[i]) ((i + 1 : Nat) : Int) = some _ := hK k (by omega)
      show prebendref19_Boxes.l0 (k + 1) l acc (i : Int) = _
      rw [prebendref19_Boxes.l0.eq_2, if_pos (by omega), if_pos (by omega), rdJ hi, if_pos c, q3 k (by omega), Option.bind_some, if_pos (by omega), ew, hk2, rs_drop hi, if_pos c, List.flatMap_cons, List.append_assoc]
    · obtain ⟨K, hK⟩ := rboxes_l0 l hl d (i + 1) acc (by omega) (by omega)
      refine ⟨K + 1, fun k hk => ?_⟩
      obtain ⟨k, rfl⟩ : ∃ k', k = k' + 1 := ⟨k - 1, by omega⟩
      have hk2 : prebendref19_Boxes.l0 k l acc ((i + 1 : Nat) : Int) = some _ := hK k (by omega)
      show prebendref19_Boxes.l0 (k + 1) l acc (i : Int) = _
      rw [prebendref19_Boxes.l0.eq_2, if_pos (by omega), if_pos (by omega), rdJ hi, if_neg c, ew, hk2, rs_drop hi, if_neg c]
theorem boxes_ev (l : List S32) (hl : l.length ≤ 1000) : Ev (fun k => job_Boxes.f k l) ((rs l).flatMap rowsO) := by
  obtain ⟨K1, hK1⟩ := run_ev l hl
  have hr := rs_len l
  obtain ⟨K2, hK2⟩ := boxes_l0 (rs l) (by omega) (rs l).length 0 [] (by omega) (Nat.zero_le _)
  refine ⟨K1 + K2, fun k hk => ?_⟩
  have h1 : job_running.f k l = some _ := hK1 k (by omega)
  have h2 := hK2 k (by omega)
  show job_Boxes.f k l = _
  unfold job_Boxes.f
  rw [h1, Option.bind_some]
  exact h2
theorem rboxes_ev (l : List S32) (hl : l.length ≤ 1000) : Ev (fun k => prebendref19_Boxes.f k l) ((rs l).flatMap rowsO) := rboxes_l0 l hl l.length 0 [] (by omega) (Nat.zero_le _)
theorem flat_len (r : List S32) : (r.flatMap rowsO).length ≤ 40 * r.length := by
  induction r with
  | nil => simp
  | cons x r ih =>
    rw [List.flatMap_cons, List.length_append, List.length_cons]
    have := (rows_x x).2.1
    omega
theorem bx_l0 (b : List S63) (hl : b.length ≤ 100000) : ∀ (d i : Nat), i + d = b.length → Ev (fun k => prebendref02_Boxes.l0 k b b (i : Int)) true
  | 0, i, h => by
    refine ⟨1, fun k hk => ?_⟩
    obtain ⟨k, rfl⟩ : ∃ k', k = k' + 1 := ⟨k - 1, by omega⟩
    show prebendref02_Boxes.l0 (k + 1) b b (i : Int) = _
    rw [prebendref02_Boxes.l0.eq_2, if_neg (by omega)]
  | d + 1, i, h => by
    have ew : wrap64 ((i : Int) + 1) = ((i + 1 : Nat) : Int) := by unfold wrap64; omega
    obtain ⟨K, hK⟩ := bx_l0 b hl d (i + 1) (by omega)
    refine ⟨K + 1, fun k hk => ?_⟩
    obtain ⟨k, rfl⟩ : ∃ k', k = k' + 1 := ⟨k - 1, by omega⟩
    have hk2 : prebendref02_Boxes.l0 k b b ((i + 1 : Nat) : Int) = some true := hK k (by omega)
    show prebendref02_Boxes.l0 (k + 1) b b (i : Int) = _
    rw [prebendref02_Boxes.l0.eq_2, if_pos (by omega), if_pos (by omega), if_pos (by omega), if_neg (by simp), ew, hk2]
theorem bx_ev (b : List S63) (hl : b.length ≤ 100000) : Ev (fun k => prebendref02_Boxes.f k b b) true := by
  obtain ⟨K, hK⟩ := bx_l0 b hl b.length 0 (by omega)
  refine ⟨K, fun k hk => ?_⟩
  show prebendref02_Boxes.f k b b = _
  unfold prebendref02_Boxes.f
  rw [if_pos rfl]
  exact hK k hk
theorem in_l0 (xs : List Int) (hl : xs.length ≤ 1000) : ∀ (d i : Nat), i + d = xs.length → Ev (fun k => prebendref01_Ints.l0 k xs xs (i : Int)) true
  | 0, i, h => ⟨1, fun k hk => by
    obtain ⟨k, rfl⟩ : ∃ k', k = k' + 1 := ⟨k - 1, by omega⟩
    show prebendref01_Ints.l0 (k + 1) xs xs (i : Int) = some true
    rw [prebendref01_Ints.l0.eq_2, if_neg (by omega)]⟩
  | d + 1, i, h => by
    obtain ⟨K, hK⟩ := in_l0 xs hl d (i + 1) (by omega)
    have ew : wrap64 ((i : Int) + 1) = ((i + 1 : Nat) : Int) := by unfold wrap64; omega
    refine ⟨K + 1, fun k hk => ?_⟩
    obtain ⟨k, rfl⟩ : ∃ k', k = k' + 1 := ⟨k - 1, by omega⟩
    have hk2 : prebendref01_Ints.l0 k xs xs ((i + 1 : Nat) : Int) = some true := hK k (by omega)
    show prebendref01_Ints.l0 (k + 1) xs xs (i : Int) = some true
    rw [prebendref01_Ints.l0.eq_2, if_pos (by omega), if_pos (by omega), if_pos (by omega), if_pos rfl, ew, hk2]
theorem ints_ev (xs : List Int) (hl : xs.length ≤ 1000) : Ev (fun k => prebendref01_Ints.f k xs xs) true := by
  obtain ⟨K, hK⟩ := in_l0 xs hl xs.length 0 (by omega)
  refine ⟨K, fun k hk => ?_⟩
  show prebendref01_Ints.f k xs xs = some true
  unfold prebendref01_Ints.f
  rw [if_pos rfl]
  exact hK k hk
def leI (l : List S32) (a b : Int) : Bool := leD (rd_T32 l a) (rd_T32 l b)
theorem tpI (l : List S32) : TP (leI l) := ⟨fun a b => tpD.total _ _, fun h h2 => tpD.trans h h2⟩
def dq (l : List S32) (now : Int) : Nat → Nat → List Int
  | 0, _ => []
  | d + 1, i => if (rd_T32 l (i : Int)).f7 = 3 ∧ endOf (rd_T32 l (i : Int)) ≤ now then (i : Int) :: dq l now d (i + 1) else dq l now d (i + 1)
def put_ (l : List S32) (now : Int) (acc : List Int) (n : Int) (i : Int) (k : Nat) : Option (List Int) := ((some (([] : List Int) : List Int)).bind fun y405 => (if 0 ≤ i then (if i ≤ (acc.length : Int) then ((some (acc.take (i : Int).toNat : List Int)).bind fun y408 => (if y405.length + y408.length < 17592186044416 then ((some (y405 ++ y408 : List Int)).bind fun y412 => ((some (([n] : List Int) : List Int)).bind fun y415 => (if y412.length + y415.length < 17592186044416 then ((some (y412 ++ y415 : List Int)).bind fun y418 => ((some (acc.drop (i : Int).toNat : List Int)).bind fun y421 => (if y418.length + y421.length < 17592186044416 then (prebendref19_Due.l0 k l now (y418 ++ y421) (wrap64 (n + 1))) else (none)))) else (none)))) else (none))) else (none)) else (none)))
theorem put_ev (l : List S32) (now : Int) (acc : List Int) (n : Nat) (hn : n ≤ 1000) (hlen : acc.length ≤ n) {res : List Int} (i : Nat) (hi : i ≤ acc.length) (R : Ev (fun k => prebendref19_Due.l0 k l now (acc.take i ++ (n : Int) :: acc.drop i) ((n + 1 : Nat) : Int)) res) : Ev (fun k => put_ l now acc (n : Int) (i : Int) k) res := by
  obtain ⟨K, hK⟩ := R
  have ew : wrap64 ((n : Int) + 1) = ((n + 1 : Nat) : Int) := by unfold wrap64; omega
  have l1 : (acc.take i).length = i := by simp; omega
  have l2 : (acc.drop i).length = acc.length - i := by simp
  have g1 : ([] : List Int).length + (acc.take i).length < 17592186044416 := by rw [l1]; simp; omega
  have g2 : (acc.take i).length + ([(n : Int)] : List Int).length < 17592186044416 := by rw [l1]; simp; omega
  have g3 : (acc.take i ++ [(n : Int)]).length + (acc.drop i).length < 17592186044416 := by rw [List.length_append, l1, l2]; simp; omega
  refine ⟨K, fun k hk => ?_⟩
  have hk2 : prebendref19_Due.l0 k l now (acc.take i ++ (n : Int) :: acc.drop i) ((n + 1 : Nat) : Int) = some res := hK k hk
  show put_ l now acc (n : Int) (i : Int) k = some res
  unfold put_
  rw [Option.bind_some, if_pos (by omega), if_pos (by omega), Int.toNat_natCast, Option.bind_some, if_pos g1, Option.bind_some, List.nil_append, Option.bind_some, if_pos g2, Option.bind_some, Option.bind_some, if_pos g3, ew, List.append_assoc, List.singleton_append, hk2]
theorem rdue_l1 (l : List S32) (hl : l.length ≤ 1000) (now : Int) (acc : List Int) (n : Nat) (hn : n < l.length) (hr : ∀ x ∈ acc, 0 ≤ x ∧ x < (n : Int)) (hlen : acc.length ≤ n) (hs : Srt (leI l) acc) {res : List Int}
    (R : ∀ A B, acc = A ++ B → (∀ b ∈ B, leI l b n = false) → (∀ a ∈ A, leI l a n = true) → Ev (fun k => prebendref19_Due.l0 k l now (A ++ (n : Int) :: B) ((n + 1 : Nat) : Int)) res) (x1 x2 x4 x5 x6 x7 x9 x10 : Int) (x11 : SH) :
    ∀ (i : Nat), i ≤ acc.length → (∀ b ∈ acc.drop i, leI l b n = false) → Ev (fun k => prebendref19_Due.l1 k l now acc (n : Int) (i : Int) (rd_T32 l (n : Int)).f0 x1 x2 (rd_T32 l (n : Int)).f3 x4 x5 x6 x7 (rd_T32 l (n : Int)).f8 x9 x10 x11) res := by
  have fin : ∀ i : Nat, i ≤ acc.length → (∀ b ∈ acc.drop i, leI l b n = false) → (∀ a ∈ acc.take i, leI l a n = true) → Ev (fun k => put_ l now acc (n : Int) (i : Int) k) res :=
    fun i hi hb ha => put_ev l now acc n (by omega) hlen i hi (R (acc.take i) (acc.drop i) (List.take_append_drop i acc).symm hb ha)
  intro i
  induction i with
  | zero =>
    intro hi hb
    obtain ⟨K, hK⟩ := fin 0 hi hb (by simp)
    refine ⟨K + 1, fun k hk => ?_⟩
    obtain ⟨k, rfl⟩ : ∃ k', k = k' + 1 := ⟨k - 1, by omega⟩
    show prebendref19_Due.l1 (k + 1) l now acc (n : Int) ((0 : Nat) : Int) _ _ _ _ _ _ _ _ _ _ _ _ = some res
    rw [prebendref19_Due.l1.eq_2, if_neg (by omega)]
    exact hK k (by omega)
  | succ i ih =>
    intro hi hb
    have hio : i < acc.length := by omega
    have e1 : wrap64 (((i + 1 : Nat) : Int) - 1) = (i : Int) := by unfold wrap64; omega
    have er : rd acc (i : Int) = acc[i] := by simp [rd, List.getD_eq_getElem?_getD, hio]
    have m := hr _ (List.getElem_mem hio)
    have g0 : ((i + 1 : Nat) : Int) > 0 := by omega
    have g1 : (0 : Int) ≤ (i : Int) := by omega
    have g2 : (i : Int) < (acc.length : Int) := by omega
    have g3 : acc[i] < (l.length : Int) := by omega
    have base : ∀ k, prebendref19_Due.l1 (k + 1) l now acc (n : Int) ((i + 1 : Nat) : Int) (rd_T32 l (n : Int)).f0 x1 x2 (rd_T32 l (n : Int)).f3 x4 x5 x6 x7 (rd_T32 l (n : Int)).f8 x9 x10 x11 = if leI l acc[i] (n : Int) = true then put_ l now acc (n : Int) ((i + 1 : Nat) : Int) k else prebendref19_Due.l1 k l now acc (n : Int) (i : Int) (rd_T32 l (n : Int)).f0 x1 x2 (rd_T32 l (n : Int)).f3 x4 x5 x6 x7 (rd_T32 l (n : Int)).f8 x9 x10 x11 := by
      intro k
      rw [prebendref19_Due.l1.eq_2, if_pos g0, e1, if_pos g1, if_pos g2, er, if_pos m.1, if_pos g3]
      unfold leI leD endOf
      generalize wrap64 ((rd_T32 l acc[i]).f8 + (rd_T32 l acc[i]).f3) = p
      generalize wrap64 ((rd_T32 l (n : Int)).f8 + (rd_T32 l (n : Int)).f3) = q
      generalize (rd_T32 l acc[i]).f0 = u
      by_cases c1 : p < q
      · rw [if_pos c1, if_pos (by simp [c1])]
        rfl
      · rw [if_neg c1]
        by_cases c2 : p = q
        · rw [if_pos c2]
          by_cases c3 : u ≤ (rd_T32 l (n : Int)).f0
          · rw [if_pos c3, if_pos (by simp [c2, c3])]
            rfl
          · rw [if_neg c3, if_neg (by simp [c1, c2]; omega)]
        · rw [if_neg c2, if_neg (by simp [c1, c2])]
    cases c : leI l acc[i] (n : Int) with
    | false =>
      have hb2 : ∀ b ∈ acc.drop i, leI l b n = false := by
        intro b h
        rw [List.drop_eq_getElem_cons hio] at h
        rcases List.mem_cons.mp h with rfl | h
        · exact c
        · exact hb b h
      obtain ⟨K, hK⟩ := ih (by omega) hb2
      refine ⟨K + 1, fun k hk => ?_⟩
      obtain ⟨k, rfl⟩ : ∃ k', k = k' + 1 := ⟨k - 1, by omega⟩
      have hk2 := hK k (by omega)
      have hb3 := base k
      rw [c, if_neg (by decide)] at hb3
      exact hb3.trans hk2
    | true =>
      have ha : ∀ a ∈ acc.take (i + 1), leI l a n = true := by
        intro a h
        obtain ⟨j, hj, rfl⟩ := List.mem_iff_getElem.mp h
        have hj2 : j < i + 1 := by simp at hj; omega
        rw [List.getElem_take]
        by_cases cj : j = i
        · subst cj; exact c
        · exact (tpI l).trans (List.pairwise_iff_getElem.mp hs j i (by omega) hio (by omega)) c
      obtain ⟨K, hK⟩ := fin (i + 1) hi hb ha
      refine ⟨K + 1, fun k hk => ?_⟩
      obtain ⟨k, rfl⟩ : ∃ k', k = k' + 1 := ⟨k - 1, by omega⟩
      have hk2 := hK k (by omega)
      have hb3 := base k
      rw [c, if_pos rfl] at hb3
      exact hb3.trans hk2
theorem rdue_l2 (l : List S32) (acc : List Int) (ha : ∀ x ∈ acc, 0 ≤ x ∧ x < (l.length : Int)) (hl : acc.length ≤ 1000) : ∀ (d i : Nat) (out : List Int), i + d = acc.length → out.length = i → Ev (fun k => prebendref19_Due.l2 k l acc out (i : Int)) (out ++ (acc.drop i).map (fun n => (rd_T32 l n).f0))
  | 0, i, out, h, ho => by
    refine ⟨1, fun k hk => ?_⟩
    obtain ⟨k, rfl⟩ : ∃ k', k = k' + 1 := ⟨k - 1, by omega⟩
    show prebendref19_Due.l2 (k + 1) l acc out (i : Int) = _
    rw [prebendref19_Due.l2.eq_2, if_neg (by omega), List.drop_eq_nil_of_le (by omega)]
    simp
  | d + 1, i, out, h, ho => by
    have hi : i < acc.length := by omega
    have ew : wrap64 ((i : Int) + 1) = ((i + 1 : Nat) : Int) := by unfold wrap64; omega
    have er : rd acc (i : Int) = acc[i] := by simp [rd, List.getD_eq_getElem?_getD, hi]
    have m := ha _ (List.getElem_mem hi)
    have g1 : (i : Int) < (acc.length : Int) := by omega
    have g0 : (0 : Int) ≤ (i : Int) := by omega
    have g2 : out.length + ([(rd_T32 l acc[i]).f0] : List Int).length < 17592186044416 := by simp; omega
    obtain ⟨K, hK⟩ := rdue_l2 l acc ha hl d (i + 1) (out ++ [(rd_T32 l acc[i]).f0]) (by omega) (by simp; omega)
    refine ⟨K + 1, fun k hk => ?_⟩
    obtain ⟨k, rfl⟩ : ∃ k', k = k' + 1 := ⟨k - 1, by omega⟩
    have hk2 : prebendref19_Due.l2 k l acc (out ++ [(rd_T32 l acc[i]).f0]) ((i + 1 : Nat) : Int) = some _ := hK k (by omega)
    show prebendref19_Due.l2 (k + 1) l acc out (i : Int) = _
    rw [prebendref19_Due.l2.eq_2, if_pos g1, if_pos g0, er, if_pos m.1, if_pos m.2, Option.bind_some, if_pos g2, ew, hk2, List.drop_eq_getElem_cons hi, List.map_cons, List.append_assoc, List.singleton_append]
theorem rdue_l0 (l : List S32) (hl : l.length ≤ 1000) (now : Int) : ∀ (d i : Nat) (acc Q : List Int), i + d = l.length → acc.length ≤ i → (∀ x ∈ acc, 0 ≤ x ∧ x < (i : Int)) → Srt (leI l) acc → SEq (leI l) acc Q → Ev (fun k => prebendref19_Due.l0 k l now acc (i : Int)) ((isort (leI l) (Q ++ dq l now d i)).map (fun n => (rd_T32 l n).f0))
  | 0, i, acc, Q, h, ha, hr, hs, hq => by
    obtain ⟨K, hK⟩ := rdue_l2 l acc (fun x hx => by have := hr x hx; omega) (by omega) acc.length 0 [] (by omega) rfl
    refine ⟨K + 1, fun k hk => ?_⟩
    obtain ⟨k, rfl⟩ : ∃ k', k = k' + 1 := ⟨k - 1, by omega⟩
    have hk2 : prebendref19_Due.l2 k l acc [] ((0 : Nat) : Int) = some _ := hK k (by omega)
    show prebendref19_Due.l0 (k + 1) l now acc (i : Int) = _
    rw [prebendref19_Due.l0.eq_2, if_neg (by omega), dq, List.append_nil, ← isort_eq (tpI l) hs hq]
    exact hk2
  | d + 1, i, acc, Q, h, ha, hr, hs, hq => by
    have hi : (i : Int) < (l.length : Int) := by omega
    have h0 : (0 : Int) ≤ (i : Int) := by omega
    have ew : wrap64 ((i : Int) + 1) = ((i + 1 : Nat) : Int) := by unfold wrap64; omega
    have skip : ¬ ((rd_T32 l (i : Int)).f7 = 3 ∧ endOf (rd_T32 l (i : Int)) ≤ now) → (∀ k, prebendref19_Due.l0 (k + 2) l now acc (i : Int) = prebendref19_Due.l0 k l now acc ((i + 1 : Nat) : Int)) → Ev (fun k => prebendref19_Due.l0 k l now acc (i : Int)) ((isort (leI l) (Q ++ dq l now (d + 1) i)).map (fun n => (rd_T32 l n).f0)) := by
      intro c hc
      obtain ⟨K, hK⟩ := rdue_l0 l hl now d (i + 1) acc Q (by omega) (by omega) (fun x hx => by have := hr x hx; omega) hs hq
      refine ⟨K + 2, fun k hk => ?_⟩
      obtain ⟨k, rfl⟩ : ∃ k', k = k' + 2 := ⟨k - 2, by omega⟩
      have hk2 := hK k (by omega)
      show prebendref19_Due.l0 (k + 2) l now acc (i : Int) = _
      rw [hc, dq, if_neg c]
      exact hk2
    by_cases c1 : (rd_T32 l (i : Int)).f7 = 3
    · by_cases c2 : wrap64 ((rd_T32 l (i : Int)).f8 + (rd_T32 l (i : Int)).f3) > now
      · refine skip (fun q => by have : wrap64 ((rd_T32 l (i : Int)).f8 + (rd_T32 l (i : Int)).f3) ≤ now := q.2; omega) (fun k => ?_)
        show prebendref19_Due.l0 (k + 1 + 1) l now acc (i : Int) = _
        rw [prebendref19_Due.l0.eq_2, if_pos hi, if_pos h0, if_pos c1, decide_eq_true c2, prebendref19_Due.j1.eq_2, if_pos rfl, ew]
      · have c3 : (rd_T32 l (i : Int)).f7 = 3 ∧ endOf (rd_T32 l (i : Int)) ≤ now := ⟨c1, by show wrap64 _ ≤ now; omega⟩
        have key := rdue_l1 l hl now acc i (by omega) hr ha hs (res := (isort (leI l) ((Q ++ [(i : Int)]) ++ dq l now d (i + 1))).map (fun n => (rd_T32 l n).f0)) (fun A B e hB hA => by
          subst e
          refine rdue_l0 l hl now d (i + 1) (A ++ (i : Int) :: B) (Q ++ [(i : Int)]) (by omega) (by simp at ha ⊢; omega) (fun x hx => ?_) ?_ ?_
          · rcases List.mem_append.mp hx with hx | hx
            · have := hr x (List.mem_append.mpr (.inl hx)); omega
            · rcases List.mem_cons.mp hx with rfl | hx
              · omega
              · have := hr x (List.mem_append.mpr (.inr hx)); omega
          · have hp := List.pairwise_append.mp hs
            refine List.pairwise_append.mpr ⟨hp.1, List.pairwise_cons.mpr ⟨fun b hb => (tpI l).of_not (hB b hb), hp.2.1⟩, fun a ha2 b hb => ?_⟩
            rcases List.mem_cons.mp hb with rfl | hb
            · exact hA a ha2
            · exact hp.2.2 a ha2 b hb
          · have sw := SEq.swap (le := leI l) (tpI l) (A := B) (B := [(i : Int)]) (fun b hb n hn => by rw [List.mem_singleton.mp hn]; exact hB b hb)
            have s2 := SEq.append (SEq.refl A) sw.symm
            have s3 := SEq.append hq (SEq.refl [(i : Int)])
            rw [List.append_assoc] at s3
            exact s2.trans s3) (rd_T32 l (i : Int)).f1 (rd_T32 l (i : Int)).f2 (rd_T32 l (i : Int)).f4 (rd_T32 l (i : Int)).f5 (rd_T32 l (i : Int)).f6 (rd_T32 l (i : Int)).f7 (rd_T32 l (i : Int)).f9 (rd_T32 l (i : Int)).f10 (rd_T32 l (i : Int)).f11 acc.length (Nat.le_refl _) (by simp)
        obtain ⟨K, hK⟩ := key
        refine ⟨K + 2, fun k hk => ?_⟩
        obtain ⟨k, rfl⟩ : ∃ k', k = k' + 2 := ⟨k - 2, by omega⟩
        have hk2 := hK k (by omega)
        show prebendref19_Due.l0 (k + 1 + 1) l now acc (i : Int) = _
        rw [prebendref19_Due.l0.eq_2, if_pos hi, if_pos h0, if_pos c1, decide_eq_false c2, prebendref19_Due.j1.eq_2, if_neg (by decide), dq, if_pos c3]
        rw [List.append_assoc, List.singleton_append] at hk2
        exact hk2
    · refine skip (fun q => c1 q.1) (fun k => ?_)
      show prebendref19_Due.l0 (k + 1 + 1) l now acc (i : Int) = _
      rw [prebendref19_Due.l0.eq_2, if_pos hi, if_pos h0, if_neg c1, prebendref19_Due.j1.eq_2, if_pos rfl, ew]
theorem ins_map {α β : Type} (g : α → β) (le : β → β → Bool) (x : α) : ∀ ys : List α, (ins (fun a b => le (g a) (g b)) x ys).map g = ins le (g x) (ys.map g)
  | [] => rfl
  | y :: ys => by
    unfold ins
    simp only [List.map_cons]
    split
    · rfl
    · rw [List.map_cons, ins_map g le x ys]
theorem isort_map {α β : Type} (g : α → β) (le : β → β → Bool) : ∀ xs : List α, (isort (fun a b => le (g a) (g b)) xs).map g = isort le (xs.map g)
  | [] => rfl
  | x :: xs => by
    unfold isort
    rw [ins_map, isort_map g le xs]
    rfl
theorem isort_filter (q : S32 → Bool) (xs : List S32) : isort leD (xs.filter q) = (isort leD xs).filter q := by
  refine (isort_eq tpD ((isort_srt tpD xs).filter q) (fun c => ?_)).symm
  rw [List.filter_filter, List.filter_filter]
  have := congrArg (List.filter q) (isort_seq tpD xs c)
  rw [List.filter_filter, List.filter_filter] at this
  have e : (fun a => eqv leD c a && q a) = (fun a => q a && eqv leD c a) := by funext a; exact Bool.and_comm _ _
  rw [e]; exact this
theorem dq_map (l : List S32) (now : Int) : ∀ (d i : Nat), i + d = l.length → (dq l now d i).map (fun n => rd_T32 l n) = (rs (l.drop i)).filter (fun x => decide (endOf x ≤ now))
  | 0, i, h => by
    rw [List.drop_eq_nil_of_le (by omega)]
    rfl
  | d + 1, i, h => by
    have hi : i < l.length := by omega
    rw [rs_drop hi, dq, rdJ hi]
    by_cases c1 : l[i].f7 = 3
    · rw [if_pos c1, List.filter_cons]
      by_cases c2 : endOf l[i] ≤ now
      · rw [if_pos ⟨c1, c2⟩, if_pos (by simpa using c2), List.map_cons, rdJ hi, dq_map l now d (i + 1) (by omega)]
      · rw [if_neg (fun q => c2 q.2), if_neg (by simpa using c2), dq_map l now d (i + 1) (by omega)]
    · rw [if_neg c1, if_neg (fun q => c1 q.1), dq_map l now d (i + 1) (by omega)]
theorem rdue_ev (l : List S32) (hl : l.length ≤ 1000) (now : Int) : Ev (fun k => prebendref19_Due.f k l now) (due l now) := by
  have h := rdue_l0 l hl now l.length 0 [] [] (by omega) (Nat.le_refl _) (fun _ h => by cases h) List.Pairwise.nil (SEq.refl _)
  have e : (isort (leI l) ([] ++ dq l now l.length 0)).map (fun n => (rd_T32 l n).f0) = due l now := by
    rw [List.nil_append]
    have h1 : (isort (leI l) (dq l now l.length 0)).map (fun n => (rd_T32 l n).f0) = ((isort (leI l) (dq l now l.length 0)).map (fun n => rd_T32 l n)).map (·.f0) := by rw [List.map_map]; rfl
    rw [h1]
    have h2 := isort_map (fun n => rd_T32 l n) leD (dq l now l.length 0)
    have h3 : (isort (leI l) (dq l now l.length 0)).map (fun n => rd_T32 l n) = isort leD ((dq l now l.length 0).map (fun n => rd_T32 l n)) := h2
    rw [h3, dq_map l now l.length 0 (by omega), isort_filter]
    rfl
  rw [e] at h
  exact h
theorem JobReads : prebendlaw19_JobReads.Pure := by
  intro l0 a1 a2 _ _ _
  obtain ⟨l, ⟨K1, hK1⟩, hl⟩ := held_ev l0
  have hr := rs_len l
  obtain ⟨K2, hK2⟩ := awake_ev
  obtain ⟨fr, ⟨K3, hK3⟩, ⟨K4, hK4⟩⟩ := find_ev l (by omega) a1
  obtain ⟨K5, hK5⟩ := mask_ev l (by omega)
  obtain ⟨K6, hK6⟩ := rmask_ev l (by omega)
  obtain ⟨K7, hK7⟩ := busy_ev l (by omega)
  obtain ⟨K8, hK8⟩ := rbusy_ev l (by omega)
  obtain ⟨K9, hK9⟩ := same_ev ((rs l).map busyOf) (by rw [List.length_map]; omega)
  obtain ⟨K10, hK10⟩ := boxes_ev l (by omega)
  obtain ⟨K11, hK11⟩ := rboxes_ev l (by omega)
  obtain ⟨K12, hK12⟩ := bx_ev ((rs l).flatMap rowsO) (by have := flat_len (rs l); omega)
  obtain ⟨K13, hK13⟩ := due_ev l (by omega) a2
  obtain ⟨K14, hK14⟩ := rdue_ev l (by omega) a2
  obtain ⟨K15, hK15⟩ := ints_ev (due l a2) (by have := due_len l a2; omega)
  obtain ⟨M, hM⟩ : ∃ M, M = K1 + K2 + K3 + K4 + K5 + K6 + K7 + K8 + K9 + K10 + K11 + K12 + K13 + K14 + K15 := ⟨_, rfl⟩
  refine ⟨M, ?_⟩
  have h1 : prebendref19_Held.f M l0 = some l := hK1 M (by omega)
  have h2 : prebendlaw19_awake.f M = some true := hK2 M (by omega)
  have h3 : job_Find.f M l a1 = some fr := hK3 M (by omega)
  have h4 : prebendref19_Find.f M l a1 = some fr := hK4 M (by omega)
  have h5 : job_Mask.f M l = some _ := hK5 M (by omega)
  have h6 : prebendref19_Mask.f M l = some _ := hK6 M (by omega)
  have h7 : job_Busy.f M l = some _ := hK7 M (by omega)
  have h8 : prebendref19_Busy.f M l = some _ := hK8 M (by omega)
  have h9 : prebendref19_SameBusy.f M ((rs l).map busyOf) ((rs l).map busyOf) = some true := hK9 M (by omega)
  have h10 : job_Boxes.f M l = some _ := hK10 M (by omega)
  have h11 : prebendref19_Boxes.f M l = some _ := hK11 M (by omega)
  have h12 : prebendref02_Boxes.f M ((rs l).flatMap rowsO) ((rs l).flatMap rowsO) = some true := hK12 M (by omega)
  have h13 : job_Due.f M l a2 = some _ := hK13 M (by omega)
  have h14 : prebendref19_Due.f M l a2 = some _ := hK14 M (by omega)
  have h15 : prebendref01_Ints.f M (due l a2) (due l a2) = some true := hK15 M (by omega)
  unfold prebendlaw19_JobReads.f
  rw [h1, Option.bind_some, h2, Option.bind_some, if_pos rfl, h3, Option.bind_some, h4, Option.bind_some, if_pos rfl, h5, Option.bind_some, h6, Option.bind_some, if_pos rfl, h7, Option.bind_some, h8, Option.bind_some, h9, Option.bind_some, if_pos rfl, h10, Option.bind_some, h11, Option.bind_some, h12, Option.bind_some, if_pos rfl, h13, Option.bind_some, h14, Option.bind_some, h15]
  rfl

end Go.Proofs.Ytkhfgflcanmefaa.Pure
end
section
namespace Go.Proofs.Ytkhfgflcanmefaa.Rd
open Go.ChangeShapes Go.WideShapes Go.Deep Go.RowKit Go.Proofs.YtkhfgflcanmefaaW.PrintWords
set_option linter.unusedVariables false
def Rds {α : Type} (P : Program) (d : Kd α) (T : TypeId) (good : α → Prop) : Prop :=
  ∀ (H : Type) (enc : TypeId × Value → H) (w : World) (base : Nat) (spare : Nat → Bool) (held : Bool) (n : Nat) (cs : List Value) (y : DataW H × List MemPlace),
    DataW.trod enc P w base spare held n T cs = some y → ∃ x, d.K w x cs ∧ good x
theorem rds_int {P : Program} {T : TypeId} {k : IntKind} (ht : P.underlying T = some (.int k)) : Rds P (Kd.int k) T (fun x => (Lit.int k x).wf = true) := by
  intro H enc w base spare held n cs y h
  obtain ⟨m, rfl, _, hw⟩ := DataW.trod_int ht h
  exact ⟨m, rfl, hw⟩
theorem rds_slice {α : Type} {P : Program} {d : Kd α} {T e : TypeId} {good : α → Prop} (ht : P.underlying T = some (.slice e)) (hc : P.cellsOf e = d.sz) (hr : Rds P d e good) :
    Rds P (Kd.slice e d) T (fun xs => xs.length ≤ maxLen ∧ ∀ x ∈ xs, good x) := by
  intro H enc w base spare held n cs y h
  rcases open_slice ht h with ⟨rfl, _⟩ | ⟨a, len, cap, m, n', D, Pl, rfl, hb, hl, hm, hmm, _, hi⟩
  · exact ⟨[], ⟨none, 0, rfl, Nat.le_refl _, rfl, by simp, fun h0 => absurd h0 (by simp)⟩, by simp, by simp⟩
  · have hlm : len ≤ m := by rw [hmm]; split <;> omega
    have step : ∀ l, l ≤ len → ∃ xs : List α, xs.length = l ∧ (∀ x ∈ xs, good x) ∧ ∀ j p, xs[j]? = some p → ∃ c, w.cells? base (a.add (j * d.sz)) d.sz = some c ∧ d.K w p c := by
      intro l
      induction l with
      | zero => intro _; exact ⟨[], rfl, by simp, by simp⟩
      | succ l ih =>
        intro hl1
        obtain ⟨xs, hx, hg, hj⟩ := ih (by omega)
        obtain ⟨c, h1, h2⟩ := hi l (by omega)
        obtain ⟨x, k, g⟩ := hr _ _ _ _ _ _ _ _ _ h2
        rw [hc] at h1
        refine ⟨xs ++ [x], by simp [hx], ?_, ?_⟩
        · intro z hz
          rcases List.mem_append.1 hz with hz | hz
          · exact hg z hz
          · rw [List.mem_singleton.1 hz]; exact g
        · intro j p hp
          rcases Nat.lt_or_ge j xs.length with hlt | hge
          · rw [List.getElem?_append_left hlt] at hp; exact hj j p hp
          · have hjl : j = l := by
              have := (List.getElem?_eq_some_iff.1 hp).1
              rw [List.length_append, List.length_singleton] at this
              omega
            subst hjl
            rw [List.getElem?_append_right hge, hx, Nat.sub_self] at hp
            simp at hp
            subst hp
            exact ⟨c, h1, k⟩
    obtain ⟨xs, hx, hg, hj⟩ := step len (Nat.le_refl _)
    refine ⟨xs, ⟨some a, cap, by rw [hx], by omega, rfl, by rw [hx]; unfold maxLen at hm; omega, fun _ => ⟨a, rfl, fun j p hp => ?_⟩⟩, by rw [hx]; omega, hg⟩
    obtain ⟨c, h1, k⟩ := hj j p hp
    refine ⟨c, d.K_len k, k, fun i u hu => ?_⟩
    obtain ⟨_, hcl, hat⟩ := World.cells?_some h1
    have hil : i < d.sz := by have := (List.getElem?_eq_some_iff.1 hu).1; omega
    rw [← Go.Deep.add_add, hat i hil, hu]
theorem pair_mk {α β : Type} {a : Kd α} {b : Kd β} {w : World} {x : α} {y : β} {cs : List Value} {o : Nat} (h1 : a.K w x ((cs.drop o).take a.sz)) (h2 : b.K w y (cs.drop (o + a.sz))) : (Kd.pair a b).K w (x, y) (cs.drop o) :=
  ⟨_, _, by rw [← List.drop_drop]; exact (List.take_append_drop a.sz (cs.drop o)).symm, h1, h2⟩
theorem last_mk {α : Type} {a : Kd α} {w : World} {x : α} {cs : List Value} {o : Nat} (hl : cs.length = o + a.sz) (h1 : a.K w x ((cs.drop o).take a.sz)) : a.K w x (cs.drop o) := by
  rwa [List.take_of_length_le (by rw [List.length_drop]; omega)] at h1
theorem field {H : Type} {enc : TypeId × Value → H} {P : Program} {w : World} {base : Nat} {spare : Nat → Bool} {held : Bool} {n : Nat} {cs : List Value} {fs : Array Field} {xs : List (DataW H × List MemPlace)} (hx : xs.length = fs.size)
    (hf : ∀ (i : Nat) (f : Field), fs[i]? = some f → DataW.trod enc P w base spare held n f.type ((cs.drop f.offset).take (P.cellsOf f.type)) = xs[i]?)
    (i : Nat) (f : Field) (hi : fs[i]? = some f) {α : Type} {d : Kd α} {good : α → Prop} {o T : Nat} (ho : f.offset = o) (hT : f.type = T) (hc : P.cellsOf T = d.sz) (hr : Rds P d T good) : ∃ x, d.K w x ((cs.drop o).take d.sz) ∧ good x := by
  have h := hf i f hi
  have hlt : i < xs.length := by rw [hx]; exact (Array.getElem?_eq_some_iff.1 hi).1
  rw [List.getElem?_eq_getElem hlt, ho, hT, hc] at h
  exact hr _ _ _ _ _ _ _ _ _ h
end Go.Proofs.Ytkhfgflcanmefaa.Rd
end
section
namespace Go.Proofs.Ytkhfgflcanmefaa.jobReads
open Go.ChangeShapes Go.WideShapes Go.ChangeAt Go.RowKit Go.Proofs.YtkhfgflcanmefaaW.PrintWords Go.Proofs.Ytkhfgflcanmefaa.PAll
open Go.ChangeMaps (open_string shut_string)
set_option linter.unusedVariables false
theorem own : ownKnob Try.prog.godebug = none := by kernel_rfl
theorem laidOut : laidOutB Try.prog = true := by kernel_rfl
theorem rdsSH {P : Program} {T e : TypeId} (ht : P.underlying T = some (.slice e)) : Rd.Rds P kSH T (fun _ => True) := by
  intro H enc w base spare held n cs y h
  rcases Go.Deep.open_slice ht h with ⟨rfl, _⟩ | ⟨a, len, cap, m, n', D, Pl, rfl, _⟩
  · exact ⟨⟨none, 0, 0⟩, rfl, trivial⟩
  · exact ⟨⟨some a, len, cap⟩, rfl, trivial⟩
theorem rds32 : Rd.Rds Try.prog k32 32 g32 := by
  intro H enc w base spare held n cs y h
  obtain ⟨xs, m, _, _, hlen, hxl, hf⟩ := DataW.trod_struct Try.underlying32 h
  have hl : cs.length = 12 := hlen.trans (by kernel_rfl)
  obtain ⟨x0, h0, g0_⟩ := Rd.field hxl hf 0 _ rfl (d := (Kd.int .i64)) (good := (fun x => (Lit.int .i64 x).wf = true)) (o := 0) (T := 3) rfl rfl (by kernel_rfl) (Rd.rds_int Try.underlying3)
  obtain ⟨x1, h1, g1_⟩ := Rd.field hxl hf 1 _ rfl (d := (Kd.int .i64)) (good := (fun x => (Lit.int .i64 x).wf = true)) (o := 1) (T := 3) rfl rfl (by kernel_rfl) (Rd.rds_int Try.underlying3)
  obtain ⟨x2, h2, g2_⟩ := Rd.field hxl hf 2 _ rfl (d := (Kd.int .i64)) (good := (fun x => (Lit.int .i64 x).wf = true)) (o := 2) (T := 3) rfl rfl (by kernel_rfl) (Rd.rds_int Try.underlying3)
  obtain ⟨x3, h3, g3_⟩ := Rd.field hxl hf 3 _ rfl (d := (Kd.int .i64)) (good := (fun x => (Lit.int .i64 x).wf = true)) (o := 3) (T := 3) rfl rfl (by kernel_rfl) (Rd.rds_int Try.underlying3)
  obtain ⟨x4, h4, g4_⟩ := Rd.field hxl hf 4 _ rfl (d := (Kd.int .i64)) (good := (fun x => (Lit.int .i64 x).wf = true)) (o := 4) (T := 3) rfl rfl (by kernel_rfl) (Rd.rds_int Try.underlying3)
  obtain ⟨x5, h5, g5_⟩ := Rd.field hxl hf 5 _ rfl (d := (Kd.int .i64)) (good := (fun x => (Lit.int .i64 x).wf = true)) (o := 5) (T := 3) rfl rfl (by kernel_rfl) (Rd.rds_int Try.underlying3)
  obtain ⟨x6, h6, g6_⟩ := Rd.field hxl hf 6 _ rfl (d := (Kd.int .i64)) (good := (fun x => (Lit.int .i64 x).wf = true)) (o := 6) (T := 3) rfl rfl (by kernel_rfl) (Rd.rds_int Try.underlying3)
  obtain ⟨x7, h7, g7_⟩ := Rd.field hxl hf 7 _ rfl (d := (Kd.int .i64)) (good := (fun x => (Lit.int .i64 x).wf = true)) (o := 7) (T := 3) rfl rfl (by kernel_rfl) (Rd.rds_int Try.underlying3)
  obtain ⟨x8, h8, g8_⟩ := Rd.field hxl hf 8 _ rfl (d := (Kd.int .i64)) (good := (fun x => (Lit.int .i64 x).wf = true)) (o := 8) (T := 3) rfl rfl (by kernel_rfl) (Rd.rds_int Try.underlying3)
  obtain ⟨x9, h9, g9_⟩ := Rd.field hxl hf 9 _ rfl (d := (Kd.int .i64)) (good := (fun x => (Lit.int .i64 x).wf = true)) (o := 9) (T := 3) rfl rfl (by kernel_rfl) (Rd.rds_int Try.underlying3)
  obtain ⟨x10, h10, g10_⟩ := Rd.field hxl hf 10 _ rfl (d := (Kd.int .i64)) (good := (fun x => (Lit.int .i64 x).wf = true)) (o := 10) (T := 3) rfl rfl (by kernel_rfl) (Rd.rds_int Try.underlying3)
  obtain ⟨x11, h11, g11_⟩ := Rd.field hxl hf 11 _ rfl (d := kSH) (good := (fun x => True)) (o := 11) (T := 30) rfl rfl (by kernel_rfl) (rdsSH Try.underlying30)
  have hK := (Rd.pair_mk (o := 0) h0 (Rd.pair_mk (o := 1) h1 (Rd.pair_mk (o := 2) h2 (Rd.pair_mk (o := 3) h3 (Rd.pair_mk (o := 4) h4 (Rd.pair_mk (o := 5) h5 (Rd.pair_mk (o := 6) h6 (Rd.pair_mk (o := 7) h7 (Rd.pair_mk (o := 8) h8 (Rd.pair_mk (o := 9) h9 (Rd.pair_mk (o := 10) h10 (Rd.last_mk (a := kSH) (o := 11) hl h11))))))))))))
  exact ⟨⟨x0, x1, x2, x3, x4, x5, x6, x7, x8, x9, x10, x11⟩, (by rw [List.drop_zero] at hK; exact hK), ⟨g0_, g1_, g2_, g3_, g4_, g5_, g6_, g7_, g8_, g9_, g10_, g11_⟩⟩
set_option maxRecDepth 100000 in
theorem lifted (os : Os) (started : os.Started) (H : Type) (enc : TypeId × Value → H) :
    ReturnsInHanded {} Try.checked os 6 .any (Rows.jobReadsSpec.pre6 enc Try.prog Try.f6 Rows.jobReadsRow.domain false) (Rows.jobReadsSpec.post enc Try.prog Try.f6 false true false false) := by
  refine returnsInHanded_of_change_sized (C := Try.checked) own started (by kernel_rfl) Try.func6
    (ChangeSpec.witness6 (enc := enc) (C := Try.checked) false ⟨#[], #[.slice none 0 0, .int .i64 0, .int .i64 0], []⟩ 8 (by kernel_rfl) (by kernel_rfl) (by kernel_rfl) (by kernel_rfl)) ?_
  intro W base args ds gs before hval0 hW hcnd hsz0 _
  have hval : ∀ (j : Nat) t v, Try.f6.params[j]? = some t → args[j]? = some v → Value.okWide Try.prog W .any base t v := hval0
  have hW' := hW
  obtain ⟨p, q, hA0, hV, rfl, hfz, hnd⟩ := hW
  have hA : DataW.TrodAll enc Try.prog W 0 (fun _ => true) true Try.f6.params.toList args.toList ds p := hA0
  rw [Try.params6] at hA hval
  obtain ⟨v0, vs0, d0, ds0, p0, q0, hargs, rfl, rfl, h0, r0⟩ := trodAll_cons hA
  obtain ⟨v1, vs1, d1, ds1, p1, q1, rfl, rfl, rfl, h1, r1⟩ := trodAll_cons r0
  obtain ⟨v2, vs2, d2, ds2, p2, q2, rfl, rfl, rfl, h2, r2⟩ := trodAll_cons r1
  obtain ⟨rfl, rfl, rfl⟩ := trodAll_nil r2
  obtain rfl : args = #[v0, v1, v2] := by cases args; simp_all
  obtain ⟨rfl, rfl⟩ := trodVars_none hV
  obtain ⟨a0, len0, cap0, rfl⟩ := okWide_slice Try.underlying22 (hval 0 22 v0 rfl rfl)
  have k0 := h0
  have lt0 : ∀ x ∈ p0, x.block < W.heap.size := by obtain ⟨m, hm⟩ := k0; exact DataW.trod_lt m _ _ _ hm
  obtain ⟨l0, ⟨A0, c0, he0, hl0, hC0⟩, g0_⟩ : ∃ xs, ((Kd.slice 32 k32)).K W xs [.slice a0 len0 cap0] ∧ (fun x => (x.length ≤ maxLen ∧ ∀ y ∈ x, g32 y)) xs := by
    obtain ⟨fuel, hf⟩ := h0
    exact (Rd.rds_slice (P := Try.prog) (T := 22) Try.underlying22 (by kernel_rfl) rds32) _ _ _ _ _ _ _ _ _ hf
  obtain ⟨rfl, rfl, rfl⟩ : a0 = A0 ∧ len0 = l0.length ∧ cap0 = c0 := by simpa using he0
  obtain ⟨a1, rfl, rfl, rfl, w1⟩ := open_int Try.underlying3 (hval 1 3 v1 rfl rfl) h1
  obtain ⟨a2, rfl, rfl, rfl, w2⟩ := open_int Try.underlying3 (hval 2 3 v2 rfl rfl) h2
  clear hA0 hval0 hsz0
  refine (PAll.prebendlaw19_JobReads.walk Pure.JobReads _ _ l0 a1 a2 W hC0 hl0 g0_ w1 w2).mono fun e W' ⟨he, bel⟩ => ?_
  subst he
  exact ⟨_, rfl, _, _, _, [], _, [], hW', trodAll_mk1 (shut_bool Try.underlying4 _), (trodAll_cons_mk (Below.trod laidOut (by kernel_rfl) (of_decide_eq_true (by kernel_rfl)) k0 bel lt0) (trodAll_cons_mk (shut_int Try.underlying3 w1) (trodAll_cons_mk (shut_int Try.underlying3 w2) trodAll_mk0))), rfl, bel.frame _, fun h => by cases h⟩
theorem over : Rows.jobReadsRow.holds Try.pinned (OpenSpec.ofChange Rows.jobReadsSpec) :=
  OpenClaim.holds_of_wide 6 Try.f6 rfl rfl rfl rfl rfl rfl rfl ⟨rfl, rfl, rfl, rfl, rfl⟩ rfl rfl rfl rfl rfl (by kernel_rfl) Try.func6 (by kernel_rfl)
    (of_decide_eq_true (by kernel_rfl)) (by unfold Func.isWrapper; first | (rw [if_pos (by decide +kernel)]; kernel_rfl) | (rw [if_neg (by decide +kernel)]; exact ⟨rfl, rfl⟩))
    (fun os started H enc _ => lifted os started H enc)
theorem proved : Rows.JobReadsSaid := over
#print axioms proved
end Go.Proofs.Ytkhfgflcanmefaa.jobReads
namespace Go.Proofs.Ytkhfgflcanmefaa
/-- The row, under a short name, for the claim. -/
theorem jobReads_holds : Rows.JobReadsSaid := jobReads.proved
end Go.Proofs.Ytkhfgflcanmefaa
end
