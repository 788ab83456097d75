/- JobEnds: whoever is due runs and has had its walltime; with more time the list goes on. -/
import Derived.Test.YtkhfgflcanmefaaBJobEnds3
import Derived.Deep.Slices
import Derived.Deep.Fields
import Derived.ChangeSame
import Derived.ChangeArms
import Derived.OpenShut
import Derived.Test.YtkhfgflcanmefaaRows
import Derived.ProofKit
import Derived.ShutString
import Derived.ChangeOld
import Derived.Carry
section
namespace Go.Proofs.Ytkhfgflcanmefaa.PAll
open Go.RowKit Go.Proofs.YtkhfgflcanmefaaW.PrintWords Go.Proofs.YtkhfgflcanmefaaW.PrintLast Go.Proofs.YtkhfgflcanmefaaW.PrintMore
attribute [local go_sem] max2_int min2_int max_two min_two max_three min_three max_four min_four   -- for this text's walks alone
set_option linter.unusedVariables false
set_option linter.unusedSimpArgs false

def prebendlaw19_awake.f (k : Nat)  : Option (Bool) := (some (([(⟨4, 0, 0, 0, 0, 0, 0, 1, 0, 0, 0, SH.nil⟩ : S32), (⟨3, 0, 2, 10, 0, 0, 0, 3, 5, 9, 0, SH.nil⟩ : S32)] : List (S32)) : List (S32))).bind fun y321 => ((job_Good.f 3 0 2 10 0 0 0 3 5 9 0 SH.nil).bind fun t324 => (if t324 = true then ((job_Find.f k y321 3).bind fun t325 => (if t325 = 1 then ((job_Find.f k y321 5).bind fun t326 => (if t326 = (-1) then ((job_Mask.f k y321).bind fun t327 => (if t327 = 9 then ((job_Due.f k y321 15).bind fun t328 => ((prebendref01_Ints.f k t328 (([3] : List Int))).bind fun t334 => (if t334 = true then ((job_Due.f k y321 14).bind fun t335 => (if (t335.length : Int) = 0 then ((job_Boxes.f k y321).bind fun t338 => (if (t338.length : Int) = 2 then ((job_Busy.f k y321).bind fun t341 => ((prebendref19_SameBusy.f k t341 (([(⟨15, 2⟩ : S59)] : List (S59)))).bind fun t347 => (some t347))) else (some false))) else (some false))) else (some false)))) else (some false))) else (some false))) else (some false))) else (some false)))
theorem prebendlaw19_awake.mono : ∀ k, LeO (prebendlaw19_awake.f k ) (prebendlaw19_awake.f (k + 1) ) := by
 intro  k
 unfold prebendlaw19_awake.f
 repeat' first
   | (with_reducible exact job_Boxes.mono _ _)
   | (with_reducible exact job_Busy.mono _ _)
   | (with_reducible exact job_Due.mono _ _ _)
   | (with_reducible exact job_Find.mono _ _ _)
   | (with_reducible exact job_Mask.mono _ _)
   | (with_reducible exact prebendref01_Ints.mono _ _ _)
   | (with_reducible exact prebendref19_SameBusy.mono _ _ _)
   | (with_reducible exact LeO.refl _)
   | (with_reducible exact LeO.none _)
   | (with_reducible refine LeO.ite ?_ ?_)
   | (with_reducible refine LeO.bind ?_ (fun _ => ?_))
   | exact job_Boxes.mono _ _
   | exact job_Busy.mono _ _
   | exact job_Due.mono _ _ _
   | exact job_Find.mono _ _ _
   | exact job_Mask.mono _ _
   | exact prebendref01_Ints.mono _ _ _
   | exact prebendref19_SameBusy.mono _ _ _
   | exact LeO.none _
   | refine LeO.ite ?_ ?_
   | refine LeO.bind ?_ (fun _ => ?_)
set_option maxHeartbeats 8000000 in
set_option maxRecDepth 100000 in
theorem prebendlaw19_awake.calls (k : Nat)  (w : World) (h : prebendlaw19_awake.f k  = some true) :
  Calls Try.prog 16 #[] w fun e w' => e = .returned (.bool true) ∧ Below w.heap.size w w' := by
 have hu32 := Try.underlying32
 have hu59 := Try.underlying59
 have HB := Aside0.mk (Below.refl w.heap.size w)
 have H : ((some (([(⟨4, 0, 0, 0, 0, 0, 0, 1, 0, 0, 0, SH.nil⟩ : S32), (⟨3, 0, 2, 10, 0, 0, 0, 3, 5, 9, 0, SH.nil⟩ : S32)] : List (S32)) : List (S32))).bind fun y321 => ((job_Good.f 3 0 2 10 0 0 0 3 5 9 0 SH.nil).bind fun t324 => (if t324 = true then ((job_Find.f k y321 3).bind fun t325 => (if t325 = 1 then ((job_Find.f k y321 5).bind fun t326 => (if t326 = (-1) then ((job_Mask.f k y321).bind fun t327 => (if t327 = 9 then ((job_Due.f k y321 15).bind fun t328 => ((prebendref01_Ints.f k t328 (([3] : List Int))).bind fun t334 => (if t334 = true then ((job_Due.f k y321 14).bind fun t335 => (if (t335.length : Int) = 0 then ((job_Boxes.f k y321).bind fun t338 => (if (t338.length : Int) = 2 then ((job_Busy.f k y321).bind fun t341 => ((prebendref19_SameBusy.f k t341 (([(⟨15, 2⟩ : S59)] : List (S59)))).bind fun t347 => (some t347))) else (some false))) else (some false))) else (some false)))) else (some false))) else (some false))) else (some false))) else (some false)))) = some true := h
 clear h
 obtain ⟨y321, hy321⟩ : ∃ y_ : List (S32), y_ = (([(⟨4, 0, 0, 0, 0, 0, 0, 1, 0, 0, 0, SH.nil⟩ : S32), (⟨3, 0, 2, 10, 0, 0, 0, 3, 5, 9, 0, SH.nil⟩ : S32)] : List (S32))) := ⟨_, rfl⟩
 replace H : ((job_Good.f 3 0 2 10 0 0 0 3 5 9 0 SH.nil).bind fun t324 => (if t324 = true then ((job_Find.f k y321 3).bind fun t325 => (if t325 = 1 then ((job_Find.f k y321 5).bind fun t326 => (if t326 = (-1) then ((job_Mask.f k y321).bind fun t327 => (if t327 = 9 then ((job_Due.f k y321 15).bind fun t328 => ((prebendref01_Ints.f k t328 (([3] : List Int))).bind fun t334 => (if t334 = true then ((job_Due.f k y321 14).bind fun t335 => (if (t335.length : Int) = 0 then ((job_Boxes.f k y321).bind fun t338 => (if (t338.length : Int) = 2 then ((job_Busy.f k y321).bind fun t341 => ((prebendref19_SameBusy.f k t341 (([(⟨15, 2⟩ : S59)] : List (S59)))).bind fun t347 => (some t347))) else (some false))) else (some false))) else (some false)))) else (some false))) else (some false))) else (some false))) else (some false))) = some true := mH hy321 H
 have Ny321 := Aside0.mk hy321
 clear hy321
 replace H := Option.bind_eq_some_iff.mp H
 obtain ⟨t324, A10, H⟩ := H
 replace H : (if t324 = true then ((job_Find.f k y321 3).bind fun t325 => (if t325 = 1 then ((job_Find.f k y321 5).bind fun t326 => (if t326 = (-1) then ((job_Mask.f k y321).bind fun t327 => (if t327 = 9 then ((job_Due.f k y321 15).bind fun t328 => ((prebendref01_Ints.f k t328 (([3] : List Int))).bind fun t334 => (if t334 = true then ((job_Due.f k y321 14).bind fun t335 => (if (t335.length : Int) = 0 then ((job_Boxes.f k y321).bind fun t338 => (if (t338.length : Int) = 2 then ((job_Busy.f k y321).bind fun t341 => ((prebendref19_SameBusy.f k t341 (([(⟨15, 2⟩ : S59)] : List (S59)))).bind fun t347 => (some t347))) else (some false))) else (some false))) else (some false)))) else (some false))) else (some false))) else (some false))) else (some false)) = some true := H
 have A1 := Aside0.mk A10
 clear A10
 by_cases c2 : t324 = true
 ·subst c2
  have H1 : ((job_Find.f k y321 3).bind fun t325 => (if t325 = 1 then ((job_Find.f k y321 5).bind fun t326 => (if t326 = (-1) then ((job_Mask.f k y321).bind fun t327 => (if t327 = 9 then ((job_Due.f k y321 15).bind fun t328 => ((prebendref01_Ints.f k t328 (([3] : List Int))).bind fun t334 => (if t334 = true then ((job_Due.f k y321 14).bind fun t335 => (if (t335.length : Int) = 0 then ((job_Boxes.f k y321).bind fun t338 => (if (t338.length : Int) = 2 then ((job_Busy.f k y321).bind fun t341 => ((prebendref19_SameBusy.f k t341 (([(⟨15, 2⟩ : S59)] : List (S59)))).bind fun t347 => (some t347))) else (some false))) else (some false))) else (some false)))) else (some false))) else (some false))) else (some false))) = some true := by rw [if_pos rfl] at H; exact H
  clear H
  have H := H1
  clear H1
  replace H := Option.bind_eq_some_iff.mp H
  obtain ⟨t325, A30, H⟩ := H
  replace H : (if t325 = 1 then ((job_Find.f k y321 5).bind fun t326 => (if t326 = (-1) then ((job_Mask.f k y321).bind fun t327 => (if t327 = 9 then ((job_Due.f k y321 15).bind fun t328 => ((prebendref01_Ints.f k t328 (([3] : List Int))).bind fun t334 => (if t334 = true then ((job_Due.f k y321 14).bind fun t335 => (if (t335.length : Int) = 0 then ((job_Boxes.f k y321).bind fun t338 => (if (t338.length : Int) = 2 then ((job_Busy.f k y321).bind fun t341 => ((prebendref19_SameBusy.f k t341 (([(⟨15, 2⟩ : S59)] : List (S59)))).bind fun t347 => (some t347))) else (some false))) else (some false))) else (some false)))) else (some false))) else (some false))) else (some false)) = some true := H
  have A3 := Aside0.mk A30
  clear A30
  by_cases c4 : t325 = 1
  ·rw [if_pos c4] at H
   have c4b0 : (t325 == 1) = true := beq_iff_eq.mpr c4
   have c4b1 : (t325 != 1) = false := bne_eq_false_iff_eq.mpr c4
   clear c4
   replace H := Option.bind_eq_some_iff.mp H
   obtain ⟨t326, A50, H⟩ := H
   replace H : (if t326 = (-1) then ((job_Mask.f k y321).bind fun t327 => (if t327 = 9 then ((job_Due.f k y321 15).bind fun t328 => ((prebendref01_Ints.f k t328 (([3] : List Int))).bind fun t334 => (if t334 = true then ((job_Due.f k y321 14).bind fun t335 => (if (t335.length : Int) = 0 then ((job_Boxes.f k y321).bind fun t338 => (if (t338.length : Int) = 2 then ((job_Busy.f k y321).bind fun t341 => ((prebendref19_SameBusy.f k t341 (([(⟨15, 2⟩ : S59)] : List (S59)))).bind fun t347 => (some t347))) else (some false))) else (some false))) else (some false)))) else (some false))) else (some false)) = some true := H
   have A5 := Aside0.mk A50
   clear A50
   by_cases c6 : t326 = (-1)
   ·rw [if_pos c6] at H
    have c6b0 : (t326 == (-1)) = true := beq_iff_eq.mpr c6
    have c6b1 : (t326 != (-1)) = false := bne_eq_false_iff_eq.mpr c6
    clear c6
    replace H := Option.bind_eq_some_iff.mp H
    obtain ⟨t327, A70, H⟩ := H
    replace H : (if t327 = 9 then ((job_Due.f k y321 15).bind fun t328 => ((prebendref01_Ints.f k t328 (([3] : List Int))).bind fun t334 => (if t334 = true then ((job_Due.f k y321 14).bind fun t335 => (if (t335.length : Int) = 0 then ((job_Boxes.f k y321).bind fun t338 => (if (t338.length : Int) = 2 then ((job_Busy.f k y321).bind fun t341 => ((prebendref19_SameBusy.f k t341 (([(⟨15, 2⟩ : S59)] : List (S59)))).bind fun t347 => (some t347))) else (some false))) else (some false))) else (some false)))) else (some false)) = some true := H
    have A7 := Aside0.mk A70
    clear A70
    by_cases c8 : t327 = 9
    ·rw [if_pos c8] at H
     have c8b0 : (t327 == 9) = true := beq_iff_eq.mpr c8
     have c8b1 : (t327 != 9) = false := bne_eq_false_iff_eq.mpr c8
     clear c8
     replace H := Option.bind_eq_some_iff.mp H
     obtain ⟨t328, A90, H⟩ := H
     replace H : ((prebendref01_Ints.f k t328 (([3] : List Int))).bind fun t334 => (if t334 = true then ((job_Due.f k y321 14).bind fun t335 => (if (t335.length : Int) = 0 then ((job_Boxes.f k y321).bind fun t338 => (if (t338.length : Int) = 2 then ((job_Busy.f k y321).bind fun t341 => ((prebendref19_SameBusy.f k t341 (([(⟨15, 2⟩ : S59)] : List (S59)))).bind fun t347 => (some t347))) else (some false))) else (some false))) else (some false))) = some true := H
     have A9 := Aside0.mk A90
     clear A90
     obtain ⟨y331, hy331⟩ : ∃ y_ : List Int, y_ = (([3] : List Int)) := ⟨_, rfl⟩
     replace H : ((prebendref01_Ints.f k t328 y331).bind fun t334 => (if t334 = true then ((job_Due.f k y321 14).bind fun t335 => (if (t335.length : Int) = 0 then ((job_Boxes.f k y321).bind fun t338 => (if (t338.length : Int) = 2 then ((job_Busy.f k y321).bind fun t341 => ((prebendref19_SameBusy.f k t341 (([(⟨15, 2⟩ : S59)] : List (S59)))).bind fun t347 => (some t347))) else (some false))) else (some false))) else (some false))) = some true := mH hy331 H
     have Ny331 := Aside0.mk hy331
     clear hy331
     replace H := Option.bind_eq_some_iff.mp H
     obtain ⟨t334, A100, H⟩ := H
     replace H : (if t334 = true then ((job_Due.f k y321 14).bind fun t335 => (if (t335.length : Int) = 0 then ((job_Boxes.f k y321).bind fun t338 => (if (t338.length : Int) = 2 then ((job_Busy.f k y321).bind fun t341 => ((prebendref19_SameBusy.f k t341 (([(⟨15, 2⟩ : S59)] : List (S59)))).bind fun t347 => (some t347))) else (some false))) else (some false))) else (some false)) = some true := H
     have A10 := Aside0.mk A100
     clear A100
     by_cases c11 : t334 = true
     ·subst c11
      have H1 : ((job_Due.f k y321 14).bind fun t335 => (if (t335.length : Int) = 0 then ((job_Boxes.f k y321).bind fun t338 => (if (t338.length : Int) = 2 then ((job_Busy.f k y321).bind fun t341 => ((prebendref19_SameBusy.f k t341 (([(⟨15, 2⟩ : S59)] : List (S59)))).bind fun t347 => (some t347))) else (some false))) else (some false))) = some true := by rw [if_pos rfl] at H; exact H
      clear H
      have H := H1
      clear H1
      replace H := Option.bind_eq_some_iff.mp H
      obtain ⟨t335, A120, H⟩ := H
      replace H : (if (t335.length : Int) = 0 then ((job_Boxes.f k y321).bind fun t338 => (if (t338.length : Int) = 2 then ((job_Busy.f k y321).bind fun t341 => ((prebendref19_SameBusy.f k t341 (([(⟨15, 2⟩ : S59)] : List (S59)))).bind fun t347 => (some t347))) else (some false))) else (some false)) = some true := H
      have A12 := Aside0.mk A120
      clear A120
      by_cases c13 : (t335.length : Int) = 0
      ·rw [if_pos c13] at H
       have c13b0 : ((t335.length : Int) == 0) = true := beq_iff_eq.mpr c13
       have c13b1 : ((t335.length : Int) != 0) = false := bne_eq_false_iff_eq.mpr c13
       clear c13
       replace H := Option.bind_eq_some_iff.mp H
       obtain ⟨t338, A140, H⟩ := H
       replace H : (if (t338.length : Int) = 2 then ((job_Busy.f k y321).bind fun t341 => ((prebendref19_SameBusy.f k t341 (([(⟨15, 2⟩ : S59)] : List (S59)))).bind fun t347 => (some t347))) else (some false)) = some true := H
       have A14 := Aside0.mk A140
       clear A140
       by_cases c15 : (t338.length : Int) = 2
       ·rw [if_pos c15] at H
        have c15b0 : ((t338.length : Int) == 2) = true := beq_iff_eq.mpr c15
        have c15b1 : ((t338.length : Int) != 2) = false := bne_eq_false_iff_eq.mpr c15
        clear c15
        replace H := Option.bind_eq_some_iff.mp H
        obtain ⟨t341, A160, H⟩ := H
        replace H : ((prebendref19_SameBusy.f k t341 (([(⟨15, 2⟩ : S59)] : List (S59)))).bind fun t347 => (some t347)) = some true := H
        have A16 := Aside0.mk A160
        clear A160
        obtain ⟨y344, hy344⟩ : ∃ y_ : List (S59), y_ = (([(⟨15, 2⟩ : S59)] : List (S59))) := ⟨_, rfl⟩
        replace H : ((prebendref19_SameBusy.f k t341 y344).bind fun t347 => (some t347)) = some true := mH hy344 H
        have Ny344 := Aside0.mk hy344
        clear hy344
        replace H := Option.bind_eq_some_iff.mp H
        obtain ⟨t347, A170, H⟩ := H
        replace H : (some t347) = some true := H
        have A17 := Aside0.mk A170
        clear A170
        obtain rfl := Option.some.inj H
        go_enter Try.func16, Try.ntmps16
        go_wp2_with (first | ((with_reducible refine gate_dst (N := 1) rfl ?_); (try (refine gate_guard (by rfl) ?_; dsimp only)); refine box_event ?hg (N := 1) ?hd (cs := #[.int .i64 0, .int .i64 0, .int .i64 0, .int .i64 0, .int .i64 0, .int .i64 0, .int .i64 0, .int .i64 0, .int .i64 0, .int .i64 0, .int .i64 0, .slice none 0 0]) (t := 32) ?hr ?_; (case hd => rfl); (case hg => rfl); (case hr => first | (go_simp; done) | (go_simp; rfl)); intro gb320 hg w18 hbox hb; have n0_ := Aside0.mk (below_step (mB HB.out) hb); have n1_ := Aside0.mk (hbox); have n2_ := Aside0.mk ((by rw [hg]; exact (below_size (mB HB.out)) : w.heap.size ≤ gb320)); have n3_ := Aside0.mk ((by rw [hg]; exact (below_size (mB HB.out)) : w.heap.size ≤ gb320)); clear HB; have HB := n0_; have BK320 := n1_; have GW320 := n2_; have GE320 := n3_; clear n0_ n1_ n2_ n3_; clear hb hbox hg; have hcz19_0 : w18.cell? ⟨gb320, 0, none⟩ = some (.int .i64 0) := (blk_cell BK320.out 0).trans rfl; have hcz19_1 : w18.cell? ⟨gb320, 1, none⟩ = some (.int .i64 0) := (blk_cell BK320.out 1).trans rfl; have hcz19_2 : w18.cell? ⟨gb320, 2, none⟩ = some (.int .i64 0) := (blk_cell BK320.out 2).trans rfl; have hcz19_3 : w18.cell? ⟨gb320, 3, none⟩ = some (.int .i64 0) := (blk_cell BK320.out 3).trans rfl; have hcz19_4 : w18.cell? ⟨gb320, 4, none⟩ = some (.int .i64 0) := (blk_cell BK320.out 4).trans rfl; have hcz19_5 : w18.cell? ⟨gb320, 5, none⟩ = some (.int .i64 0) := (blk_cell BK320.out 5).trans rfl; have hcz19_6 : w18.cell? ⟨gb320, 6, none⟩ = some (.int .i64 0) := (blk_cell BK320.out 6).trans rfl; have hcz19_7 : w18.cell? ⟨gb320, 7, none⟩ = some (.int .i64 0) := (blk_cell BK320.out 7).trans rfl; have hcz19_8 : w18.cell? ⟨gb320, 8, none⟩ = some (.int .i64 0) := (blk_cell BK320.out 8).trans rfl; have hcz19_9 : w18.cell? ⟨gb320, 9, none⟩ = some (.int .i64 0) := (blk_cell BK320.out 9).trans rfl; have hcz19_10 : w18.cell? ⟨gb320, 10, none⟩ = some (.int .i64 0) := (blk_cell BK320.out 10).trans rfl; have hcz19_11 : w18.cell? ⟨gb320, 11, none⟩ = some (.slice none 0 0) := (blk_cell BK320.out 11).trans rfl; have hfz19_0 := blk_frozen BK320.out 0; have hfz19_1 := blk_frozen BK320.out 1; have hfz19_2 := blk_frozen BK320.out 2; have hfz19_3 := blk_frozen BK320.out 3; have hfz19_4 := blk_frozen BK320.out 4; have hfz19_5 := blk_frozen BK320.out 5; have hfz19_6 := blk_frozen BK320.out 6; have hfz19_7 := blk_frozen BK320.out 7; have hfz19_8 := blk_frozen BK320.out 8; have hfz19_9 := blk_frozen BK320.out 9; have hfz19_10 := blk_frozen BK320.out 10; have hfz19_11 := blk_frozen BK320.out 11) | ((with_reducible refine gate_dst (N := 6) rfl ?_); (try (refine gate_guard (by rfl) ?_; dsimp only)); refine Kd.R_lit k32 _ 32 ?hg (N := 6) ?hd (xs := ([(⟨4, 0, 0, 0, 0, 0, 0, 1, 0, 0, 0, SH.nil⟩ : S32), (⟨3, 0, 2, 10, 0, 0, 0, 3, 5, 9, 0, SH.nil⟩ : S32)] : List (S32))) (inner := [.int .i64 4, .int .i64 0, .int .i64 0, .int .i64 0, .int .i64 0, .int .i64 0, .int .i64 0, .int .i64 1, .int .i64 0, .int .i64 0, .int .i64 0, .slice none 0 0, .int .i64 3, .int .i64 0, .int .i64 2, .int .i64 10, .int .i64 0, .int .i64 0, .int .i64 0, .int .i64 3, .int .i64 5, .int .i64 9, .int .i64 0, .slice none 0 0]) (ok := fun _ => True) (okp := fun _ => True) ?hr ?hp (fun _ hk => hk) trivial (Below.refl _ _) (Nat.le_refl _) (by simp) ?_; (case hd => rfl); (case hg => rfl); (case hr => first | (go_simp; done) | (go_simp; rfl)); (case hp => exact (Reps.front (show Kd.M k32 _ _ _ (⟨4, 0, 0, 0, 0, 0, 0, 1, 0, 0, 0, SH.nil⟩ : S32) [.int .i64 4, .int .i64 0, .int .i64 0, .int .i64 0, .int .i64 0, .int .i64 0, .int .i64 0, .int .i64 1, .int .i64 0, .int .i64 0, .int .i64 0, .slice none 0 0] from (k32_mkM _ _ _ (⟨4, 0, 0, 0, 0, 0, 0, 1, 0, 0, 0, SH.nil⟩ : S32) )) rfl (Reps.front (show Kd.M k32 _ _ _ (⟨3, 0, 2, 10, 0, 0, 0, 3, 5, 9, 0, SH.nil⟩ : S32) [.int .i64 3, .int .i64 0, .int .i64 2, .int .i64 10, .int .i64 0, .int .i64 0, .int .i64 0, .int .i64 3, .int .i64 5, .int .i64 9, .int .i64 0, .slice none 0 0] from (k32_mkM _ _ _ (⟨3, 0, 2, 10, 0, 0, 0, 3, 5, 9, 0, SH.nil⟩ : S32) )) rfl (Reps.none _ _) rfl) rfl)); intro v322 w20 ho21 hb hg_ hnew_; clear hg_ hnew_; (first | rw [← Ny321.out] at ho21 | (simp only [Int.reduceToNat] at ho21; rw [← Ny321.out] at ho21)); have n0_ := Aside0.mk (Kd.R_lower (Kd.R_newB ho21 (g := gb320) (o := .cells #[.int .i64 3, .int .i64 0, .int .i64 2, .int .i64 10, .int .i64 0, .int .i64 0, .int .i64 0, .int .i64 3, .int .i64 5, .int .i64 9, .int .i64 0, .slice none 0 0] 32 (0, 0)) (by (with_reducible repeat first | apply blk_drewN | apply blk_drew | apply blk_alloc); refine blk_put (cs := #[.int .i64 3, .int .i64 0, .int .i64 2, .int .i64 10, .int .i64 0, .int .i64 0, .int .i64 0, .int .i64 3, .int .i64 5, .int .i64 9, .int .i64 0, .slice none 0 0]) ?_ 11 _ rfl; (with_reducible repeat first | apply blk_drewN | apply blk_drew | apply blk_alloc); refine blk_put (cs := #[.int .i64 3, .int .i64 0, .int .i64 2, .int .i64 10, .int .i64 0, .int .i64 0, .int .i64 0, .int .i64 3, .int .i64 5, .int .i64 9, .int .i64 0, .slice none 0 0]) ?_ 10 _ rfl; (with_reducible repeat first | apply blk_drewN | apply blk_drew | apply blk_alloc); refine blk_put (cs := #[.int .i64 3, .int .i64 0, .int .i64 2, .int .i64 10, .int .i64 0, .int .i64 0, .int .i64 0, .int .i64 3, .int .i64 5, .int .i64 0, .int .i64 0, .slice none 0 0]) ?_ 9 _ rfl; (with_reducible repeat first | apply blk_drewN | apply blk_drew | apply blk_alloc); refine blk_put (cs := #[.int .i64 3, .int .i64 0, .int .i64 2, .int .i64 10, .int .i64 0, .int .i64 0, .int .i64 0, .int .i64 3, .int .i64 0, .int .i64 0, .int .i64 0, .slice none 0 0]) ?_ 8 _ rfl; (with_reducible repeat first | apply blk_drewN | apply blk_drew | apply blk_alloc); refine blk_put (cs := #[.int .i64 3, .int .i64 0, .int .i64 2, .int .i64 10, .int .i64 0, .int .i64 0, .int .i64 0, .int .i64 0, .int .i64 0, .int .i64 0, .int .i64 0, .slice none 0 0]) ?_ 7 _ rfl; (with_reducible repeat first | apply blk_drewN | apply blk_drew | apply blk_alloc); refine blk_put (cs := #[.int .i64 3, .int .i64 0, .int .i64 2, .int .i64 10, .int .i64 0, .int .i64 0, .int .i64 0, .int .i64 0, .int .i64 0, .int .i64 0, .int .i64 0, .slice none 0 0]) ?_ 6 _ rfl; (with_reducible repeat first | apply blk_drewN | apply blk_drew | apply blk_alloc); refine blk_put (cs := #[.int .i64 3, .int .i64 0, .int .i64 2, .int .i64 10, .int .i64 0, .int .i64 0, .int .i64 0, .int .i64 0, .int .i64 0, .int .i64 0, .int .i64 0, .slice none 0 0]) ?_ 5 _ rfl; (with_reducible repeat first | apply blk_drewN | apply blk_drew | apply blk_alloc); refine blk_put (cs := #[.int .i64 3, .int .i64 0, .int .i64 2, .int .i64 10, .int .i64 0, .int .i64 0, .int .i64 0, .int .i64 0, .int .i64 0, .int .i64 0, .int .i64 0, .slice none 0 0]) ?_ 4 _ rfl; (with_reducible repeat first | apply blk_drewN | apply blk_drew | apply blk_alloc); refine blk_put (cs := #[.int .i64 3, .int .i64 0, .int .i64 2, .int .i64 0, .int .i64 0, .int .i64 0, .int .i64 0, .int .i64 0, .int .i64 0, .int .i64 0, .int .i64 0, .slice none 0 0]) ?_ 3 _ rfl; (with_reducible repeat first | apply blk_drewN | apply blk_drew | apply blk_alloc); refine blk_put (cs := #[.int .i64 3, .int .i64 0, .int .i64 0, .int .i64 0, .int .i64 0, .int .i64 0, .int .i64 0, .int .i64 0, .int .i64 0, .int .i64 0, .int .i64 0, .slice none 0 0]) ?_ 2 _ rfl; (with_reducible repeat first | apply blk_drewN | apply blk_drew | apply blk_alloc); refine blk_put (cs := #[.int .i64 3, .int .i64 0, .int .i64 0, .int .i64 0, .int .i64 0, .int .i64 0, .int .i64 0, .int .i64 0, .int .i64 0, .int .i64 0, .int .i64 0, .slice none 0 0]) ?_ 1 _ rfl; (with_reducible repeat first | apply blk_drewN | apply blk_drew | apply blk_alloc); refine blk_put (cs := #[.int .i64 0, .int .i64 0, .int .i64 0, .int .i64 0, .int .i64 0, .int .i64 0, .int .i64 0, .int .i64 0, .int .i64 0, .int .i64 0, .int .i64 0, .slice none 0 0]) ?_ 0 _ rfl; (with_reducible repeat first | apply blk_drewN | apply blk_drew | apply blk_alloc); exact BK320.out)) (below_size (mBs HB.out))); have n1_ := Aside0.mk (blk_below (g := gb320) (o := .cells #[.int .i64 3, .int .i64 0, .int .i64 2, .int .i64 10, .int .i64 0, .int .i64 0, .int .i64 0, .int .i64 3, .int .i64 5, .int .i64 9, .int .i64 0, .slice none 0 0] 32 (0, 0)) (by (with_reducible repeat first | apply blk_drewN | apply blk_drew | apply blk_alloc); refine blk_put (cs := #[.int .i64 3, .int .i64 0, .int .i64 2, .int .i64 10, .int .i64 0, .int .i64 0, .int .i64 0, .int .i64 3, .int .i64 5, .int .i64 9, .int .i64 0, .slice none 0 0]) ?_ 11 _ rfl; (with_reducible repeat first | apply blk_drewN | apply blk_drew | apply blk_alloc); refine blk_put (cs := #[.int .i64 3, .int .i64 0, .int .i64 2, .int .i64 10, .int .i64 0, .int .i64 0, .int .i64 0, .int .i64 3, .int .i64 5, .int .i64 9, .int .i64 0, .slice none 0 0]) ?_ 10 _ rfl; (with_reducible repeat first | apply blk_drewN | apply blk_drew | apply blk_alloc); refine blk_put (cs := #[.int .i64 3, .int .i64 0, .int .i64 2, .int .i64 10, .int .i64 0, .int .i64 0, .int .i64 0, .int .i64 3, .int .i64 5, .int .i64 0, .int .i64 0, .slice none 0 0]) ?_ 9 _ rfl; (with_reducible repeat first | apply blk_drewN | apply blk_drew | apply blk_alloc); refine blk_put (cs := #[.int .i64 3, .int .i64 0, .int .i64 2, .int .i64 10, .int .i64 0, .int .i64 0, .int .i64 0, .int .i64 3, .int .i64 0, .int .i64 0, .int .i64 0, .slice none 0 0]) ?_ 8 _ rfl; (with_reducible repeat first | apply blk_drewN | apply blk_drew | apply blk_alloc); refine blk_put (cs := #[.int .i64 3, .int .i64 0, .int .i64 2, .int .i64 10, .int .i64 0, .int .i64 0, .int .i64 0, .int .i64 0, .int .i64 0, .int .i64 0, .int .i64 0, .slice none 0 0]) ?_ 7 _ rfl; (with_reducible repeat first | apply blk_drewN | apply blk_drew | apply blk_alloc); refine blk_put (cs := #[.int .i64 3, .int .i64 0, .int .i64 2, .int .i64 10, .int .i64 0, .int .i64 0, .int .i64 0, .int .i64 0, .int .i64 0, .int .i64 0, .int .i64 0, .slice none 0 0]) ?_ 6 _ rfl; (with_reducible repeat first | apply blk_drewN | apply blk_drew | apply blk_alloc); refine blk_put (cs := #[.int .i64 3, .int .i64 0, .int .i64 2, .int .i64 10, .int .i64 0, .int .i64 0, .int .i64 0, .int .i64 0, .int .i64 0, .int .i64 0, .int .i64 0, .slice none 0 0]) ?_ 5 _ rfl; (with_reducible repeat first | apply blk_drewN | apply blk_drew | apply blk_alloc); refine blk_put (cs := #[.int .i64 3, .int .i64 0, .int .i64 2, .int .i64 10, .int .i64 0, .int .i64 0, .int .i64 0, .int .i64 0, .int .i64 0, .int .i64 0, .int .i64 0, .slice none 0 0]) ?_ 4 _ rfl; (with_reducible repeat first | apply blk_drewN | apply blk_drew | apply blk_alloc); refine blk_put (cs := #[.int .i64 3, .int .i64 0, .int .i64 2, .int .i64 0, .int .i64 0, .int .i64 0, .int .i64 0, .int .i64 0, .int .i64 0, .int .i64 0, .int .i64 0, .slice none 0 0]) ?_ 3 _ rfl; (with_reducible repeat first | apply blk_drewN | apply blk_drew | apply blk_alloc); refine blk_put (cs := #[.int .i64 3, .int .i64 0, .int .i64 0, .int .i64 0, .int .i64 0, .int .i64 0, .int .i64 0, .int .i64 0, .int .i64 0, .int .i64 0, .int .i64 0, .slice none 0 0]) ?_ 2 _ rfl; (with_reducible repeat first | apply blk_drewN | apply blk_drew | apply blk_alloc); refine blk_put (cs := #[.int .i64 3, .int .i64 0, .int .i64 0, .int .i64 0, .int .i64 0, .int .i64 0, .int .i64 0, .int .i64 0, .int .i64 0, .int .i64 0, .int .i64 0, .slice none 0 0]) ?_ 1 _ rfl; (with_reducible repeat first | apply blk_drewN | apply blk_drew | apply blk_alloc); refine blk_put (cs := #[.int .i64 0, .int .i64 0, .int .i64 0, .int .i64 0, .int .i64 0, .int .i64 0, .int .i64 0, .int .i64 0, .int .i64 0, .int .i64 0, .int .i64 0, .slice none 0 0]) ?_ 0 _ rfl; (with_reducible repeat first | apply blk_drewN | apply blk_drew | apply blk_alloc); exact BK320.out) hb); have n2_ := Aside0.mk (below_step (mBs HB.out) hb); clear BK320; clear HB; have HO323 := n0_; have BK320 := n1_; have HB := n2_; clear n0_ n1_ n2_; clear hb ho21; have hcz22_0 : w20.cell? ⟨gb320, 0, none⟩ = some (.int .i64 3) := (blk_cell BK320.out 0).trans rfl; have hcz22_1 : w20.cell? ⟨gb320, 1, none⟩ = some (.int .i64 0) := (blk_cell BK320.out 1).trans rfl; have hcz22_2 : w20.cell? ⟨gb320, 2, none⟩ = some (.int .i64 2) := (blk_cell BK320.out 2).trans rfl; have hcz22_3 : w20.cell? ⟨gb320, 3, none⟩ = some (.int .i64 10) := (blk_cell BK320.out 3).trans rfl; have hcz22_4 : w20.cell? ⟨gb320, 4, none⟩ = some (.int .i64 0) := (blk_cell BK320.out 4).trans rfl; have hcz22_5 : w20.cell? ⟨gb320, 5, none⟩ = some (.int .i64 0) := (blk_cell BK320.out 5).trans rfl; have hcz22_6 : w20.cell? ⟨gb320, 6, none⟩ = some (.int .i64 0) := (blk_cell BK320.out 6).trans rfl; have hcz22_7 : w20.cell? ⟨gb320, 7, none⟩ = some (.int .i64 3) := (blk_cell BK320.out 7).trans rfl; have hcz22_8 : w20.cell? ⟨gb320, 8, none⟩ = some (.int .i64 5) := (blk_cell BK320.out 8).trans rfl; have hcz22_9 : w20.cell? ⟨gb320, 9, none⟩ = some (.int .i64 9) := (blk_cell BK320.out 9).trans rfl; have hcz22_10 : w20.cell? ⟨gb320, 10, none⟩ = some (.int .i64 0) := (blk_cell BK320.out 10).trans rfl; have hcz22_11 : w20.cell? ⟨gb320, 11, none⟩ = some (.slice none 0 0) := (blk_cell BK320.out 11).trans rfl; have hfz22_0 := blk_frozen BK320.out 0; have hfz22_1 := blk_frozen BK320.out 1; have hfz22_2 := blk_frozen BK320.out 2; have hfz22_3 := blk_frozen BK320.out 3; have hfz22_4 := blk_frozen BK320.out 4; have hfz22_5 := blk_frozen BK320.out 5; have hfz22_6 := blk_frozen BK320.out 6; have hfz22_7 := blk_frozen BK320.out 7; have hfz22_8 := blk_frozen BK320.out 8; have hfz22_9 := blk_frozen BK320.out 9; have hfz22_10 := blk_frozen BK320.out 10; have hfz22_11 := blk_frozen BK320.out 11) | ((with_reducible refine gate_callee (f := 29) rfl ?_); refine goesL_ (some 8) rfl rfl Try.func29 (by kernel_rfl) rfl #[.agg #[.int .i64 3, .int .i64 0, .int .i64 2, .int .i64 10, .int .i64 0, .int .i64 0, .int .i64 0, .int .i64 3, .int .i64 5, .int .i64 9, .int .i64 0, .slice none 0 0]] rfl mt ?_; (with_reducible refine (job_Good.calls_nil true _ A1.out).mono ?_); rintro e w23 ⟨rfl, hb⟩; refine ⟨_, rfl, ?_⟩; have n0_ := Aside0.mk (Kd.R_below (mR HO323.out) hb); have n1_ := Aside0.mk (blk_below (g := gb320) (o := .cells #[.int .i64 3, .int .i64 0, .int .i64 2, .int .i64 10, .int .i64 0, .int .i64 0, .int .i64 0, .int .i64 3, .int .i64 5, .int .i64 9, .int .i64 0, .slice none 0 0] 32 (0, 0)) (mBK BK320.out) hb); have n2_ := Aside0.mk (below_step (mBs HB.out) hb); clear HO323; clear BK320; clear HB; have HO323 := n0_; have BK320 := n1_; have HB := n2_; clear n0_ n1_ n2_; (try clear hb); (try clear hb2); (try clear hk); (try clear hi); obtain ⟨Ao24, co24, eo24⟩ := Kd.R_slice HO323.out; subst eo24) | (go_at_call 17; (with_reducible refine (job_Find.calls k _ _ y321 3 t325 _ ?side1 ?side2 A3.out).mono ?_); (case side1 => exact mC (Kd.R_reads' HO323.out).2.2); (case side2 => exact (Kd.R_reads' HO323.out).2.1); rintro e w25 ⟨rfl, hb⟩; have n0_ := Aside0.mk (Kd.R_below (mR HO323.out) hb); have n1_ := Aside0.mk (blk_below (g := gb320) (o := .cells #[.int .i64 3, .int .i64 0, .int .i64 2, .int .i64 10, .int .i64 0, .int .i64 0, .int .i64 0, .int .i64 3, .int .i64 5, .int .i64 9, .int .i64 0, .slice none 0 0] 32 (0, 0)) (mBK BK320.out) hb); have n2_ := Aside0.mk (below_step (mBs HB.out) hb); clear HO323; clear BK320; clear HB; have HO323 := n0_; have BK320 := n1_; have HB := n2_; clear n0_ n1_ n2_; (try clear hb); (try clear hb2); (try clear hk); (try clear hi)) | (go_at_call 17; (with_reducible refine (job_Find.calls k _ _ y321 5 t326 _ ?side1 ?side2 A5.out).mono ?_); (case side1 => exact mC (Kd.R_reads' HO323.out).2.2); (case side2 => exact (Kd.R_reads' HO323.out).2.1); rintro e w26 ⟨rfl, hb⟩; have n0_ := Aside0.mk (Kd.R_below (mR HO323.out) hb); have n1_ := Aside0.mk (blk_below (g := gb320) (o := .cells #[.int .i64 3, .int .i64 0, .int .i64 2, .int .i64 10, .int .i64 0, .int .i64 0, .int .i64 0, .int .i64 3, .int .i64 5, .int .i64 9, .int .i64 0, .slice none 0 0] 32 (0, 0)) (mBK BK320.out) hb); have n2_ := Aside0.mk (below_step (mBs HB.out) hb); clear HO323; clear BK320; clear HB; have HO323 := n0_; have BK320 := n1_; have HB := n2_; clear n0_ n1_ n2_; (try clear hb); (try clear hb2); (try clear hk); (try clear hi)) | (go_at_call 19; (with_reducible refine (job_Mask.calls k _ _ y321 t327 _ ?side1 ?side2 A7.out).mono ?_); (case side1 => exact mC (Kd.R_reads' HO323.out).2.2); (case side2 => exact (Kd.R_reads' HO323.out).2.1); rintro e w27 ⟨rfl, hb⟩; have n0_ := Aside0.mk (Kd.R_below (mR HO323.out) hb); have n1_ := Aside0.mk (blk_below (g := gb320) (o := .cells #[.int .i64 3, .int .i64 0, .int .i64 2, .int .i64 10, .int .i64 0, .int .i64 0, .int .i64 0, .int .i64 3, .int .i64 5, .int .i64 9, .int .i64 0, .slice none 0 0] 32 (0, 0)) (mBK BK320.out) hb); have n2_ := Aside0.mk (below_step (mBs HB.out) hb); clear HO323; clear BK320; clear HB; have HO323 := n0_; have BK320 := n1_; have HB := n2_; clear n0_ n1_ n2_; (try clear hb); (try clear hb2); (try clear hk); (try clear hi)) | (go_at_call 27; (with_reducible refine (job_Due.calls k _ _ y321 15 t328 _ ?side1 ?side2 A9.out).mono ?_); (case side1 => exact mC (Kd.R_reads' HO323.out).2.2); (case side2 => exact (Kd.R_reads' HO323.out).2.1); rintro e w28 ⟨v329, rfl, ho0, hb⟩; have n0_ := Aside0.mk (Kd.R_below (mR HO323.out) hb); have n1_ := Aside0.mk (Kd.V_lower (Kd.V_mono (ok' := fun k_ => some k_ ≠ (.slice Ao24 y321.length co24 : Value).ownBlock ∧ k_ ≠ gb320) ho0 (fun k_ hk_ => ⟨(Kd.fresh' (Kd.R_lt (mR HO323.out)) k_ hk_), (Kd.freshB (g := gb320) (o := .cells #[.int .i64 3, .int .i64 0, .int .i64 2, .int .i64 10, .int .i64 0, .int .i64 0, .int .i64 0, .int .i64 3, .int .i64 5, .int .i64 9, .int .i64 0, .slice none 0 0] 32 (0, 0)) (mBK BK320.out) k_ hk_)⟩)) (below_size (mBs HB.out))); have n2_ := Aside0.mk (blk_below (g := gb320) (o := .cells #[.int .i64 3, .int .i64 0, .int .i64 2, .int .i64 10, .int .i64 0, .int .i64 0, .int .i64 0, .int .i64 3, .int .i64 5, .int .i64 9, .int .i64 0, .slice none 0 0] 32 (0, 0)) (mBK BK320.out) hb); have n3_ := Aside0.mk (below_step (mBs HB.out) hb); clear HO323; clear BK320; clear HB; have HO323 := n0_; have HO330 := n1_; have BK320 := n2_; have HB := n3_; clear n0_ n1_ n2_ n3_; (try clear hb); (try clear hb2); (try clear hk); (try clear hi); (try clear ho0)) | ((with_reducible refine gate_dst (N := 27) rfl ?_); (try (refine gate_guard (by rfl) ?_; dsimp only)); refine Kd.R_lit (Kd.int .i64) _ 3 ?hg (N := 27) ?hd (xs := ([3] : List Int)) (inner := [.int .i64 3]) (ok := fun _ => True) (okp := fun _ => True) ?hr ?hp (fun _ hk => hk) trivial (Below.refl _ _) (Nat.le_refl _) (by simp) ?_; (case hd => rfl); (case hg => rfl); (case hr => first | (go_simp; done) | (go_simp; rfl)); (case hp => exact (Reps.one (show Kd.M (Kd.int .i64) _ _ _ 3 [.int .i64 3] from rfl) (Reps.none _ _))); intro v332 w29 ho30 hb hg_ hnew_; clear hg_ hnew_; (first | rw [← Ny331.out] at ho30 | (simp only [Int.reduceToNat] at ho30; rw [← Ny331.out] at ho30)); have n0_ := Aside0.mk (Kd.R_below (mR HO323.out) hb); have n1_ := Aside0.mk (Kd.V_elder' (mV HO330.out) (Kd.R_base ho30) hb); have n2_ := Aside0.mk (Kd.R_lower ho30 (below_size (mBs HB.out))); have n3_ := Aside0.mk (blk_below (g := gb320) (o := .cells #[.int .i64 3, .int .i64 0, .int .i64 2, .int .i64 10, .int .i64 0, .int .i64 0, .int .i64 0, .int .i64 3, .int .i64 5, .int .i64 9, .int .i64 0, .slice none 0 0] 32 (0, 0)) (mBK BK320.out) hb); have n4_ := Aside0.mk (below_step (mBs HB.out) hb); clear HO323; clear HO330; clear BK320; clear HB; have HO323 := n0_; have HO330 := n1_; have HO333 := n2_; have BK320 := n3_; have HB := n4_; clear n0_ n1_ n2_ n3_ n4_; clear hb ho30; obtain ⟨Ao31, co31, eo31⟩ := Kd.V_slice HO330.out; subst eo31; obtain ⟨Ao32, co32, eo32⟩ := Kd.R_slice HO333.out; subst eo32) | (go_at_call 13; (with_reducible refine (prebendref01_Ints.calls k _ _ t328 _ _ y331 true _ ?side1 ?side2 ?side3 ?side4 A10.out).mono ?_); (case side1 => exact mC (Kd.V_reads' HO330.out).2.2); (case side2 => exact (Kd.V_reads' HO330.out).2.1); (case side3 => exact mC (Kd.R_reads' HO333.out).2.2); (case side4 => exact (Kd.R_reads' HO333.out).2.1); rintro e w' ⟨rfl, ⟨nd, rfl⟩⟩) | (go_at_call 27; (with_reducible refine (job_Due.calls k _ _ y321 14 t335 _ ?side1 ?side2 A12.out).mono ?_); (case side1 => exact mC (Kd.R_reads' HO323.out).2.2); (case side2 => exact (Kd.R_reads' HO323.out).2.1); rintro e w33 ⟨v336, rfl, ho0, hb⟩; have n0_ := Aside0.mk (Kd.R_below (mR HO323.out) hb); have n1_ := Aside0.mk (Kd.V_below (mV HO330.out) hb); have n2_ := Aside0.mk (Kd.R_below (mR HO333.out) hb); have n3_ := Aside0.mk (Kd.V_lower (Kd.V_mono (ok' := fun k_ => some k_ ≠ (.slice Ao24 y321.length co24 : Value).ownBlock ∧ some k_ ≠ (.slice Ao32 y331.length co32 : Value).ownBlock ∧ k_ ≠ gb320) ho0 (fun k_ hk_ => ⟨(Kd.fresh' (Kd.R_lt (mR HO323.out)) k_ hk_), (Kd.fresh' (Kd.R_lt (mR HO333.out)) k_ hk_), (Kd.freshB (g := gb320) (o := .cells #[.int .i64 3, .int .i64 0, .int .i64 2, .int .i64 10, .int .i64 0, .int .i64 0, .int .i64 0, .int .i64 3, .int .i64 5, .int .i64 9, .int .i64 0, .slice none 0 0] 32 (0, 0)) (mBK BK320.out) k_ hk_)⟩)) (below_size (mBs HB.out))); have n4_ := Aside0.mk (blk_below (g := gb320) (o := .cells #[.int .i64 3, .int .i64 0, .int .i64 2, .int .i64 10, .int .i64 0, .int .i64 0, .int .i64 0, .int .i64 3, .int .i64 5, .int .i64 9, .int .i64 0, .slice none 0 0] 32 (0, 0)) (mBK BK320.out) hb); have n5_ := Aside0.mk (below_step (mBs HB.out) hb); clear HO323; clear HO330; clear HO333; clear BK320; clear HB; have HO323 := n0_; have HO330 := n1_; have HO333 := n2_; have HO337 := n3_; have BK320 := n4_; have HB := n5_; clear n0_ n1_ n2_ n3_ n4_ n5_; (try clear hb); (try clear hb2); (try clear hk); (try clear hi); (try clear ho0); obtain ⟨Ao34, co34, eo34⟩ := Kd.V_slice HO337.out; subst eo34) | (go_at_call 25; (with_reducible refine (job_Boxes.calls k _ _ y321 t338 _ ?side1 ?side2 A14.out).mono ?_); (case side1 => exact mC (Kd.R_reads' HO323.out).2.2); (case side2 => exact (Kd.R_reads' HO323.out).2.1); rintro e w35 ⟨v339, rfl, ho0, hb⟩; have n0_ := Aside0.mk (Kd.R_below (mR HO323.out) hb); have n1_ := Aside0.mk (Kd.V_below (mV HO330.out) hb); have n2_ := Aside0.mk (Kd.R_below (mR HO333.out) hb); have n3_ := Aside0.mk (Kd.V_below (mV HO337.out) hb); have n4_ := Aside0.mk (Kd.V_lower (Kd.V_mono (ok' := fun k_ => some k_ ≠ (.slice Ao24 y321.length co24 : Value).ownBlock ∧ some k_ ≠ (.slice Ao32 y331.length co32 : Value).ownBlock ∧ k_ ≠ gb320) ho0 (fun k_ hk_ => ⟨(Kd.fresh' (Kd.R_lt (mR HO323.out)) k_ hk_), (Kd.fresh' (Kd.R_lt (mR HO333.out)) k_ hk_), (Kd.freshB (g := gb320) (o := .cells #[.int .i64 3, .int .i64 0, .int .i64 2, .int .i64 10, .int .i64 0, .int .i64 0, .int .i64 0, .int .i64 3, .int .i64 5, .int .i64 9, .int .i64 0, .slice none 0 0] 32 (0, 0)) (mBK BK320.out) k_ hk_)⟩)) (below_size (mBs HB.out))); have n5_ := Aside0.mk (blk_below (g := gb320) (o := .cells #[.int .i64 3, .int .i64 0, .int .i64 2, .int .i64 10, .int .i64 0, .int .i64 0, .int .i64 0, .int .i64 3, .int .i64 5, .int .i64 9, .int .i64 0, .slice none 0 0] 32 (0, 0)) (mBK BK320.out) hb); have n6_ := Aside0.mk (below_step (mBs HB.out) hb); clear HO323; clear HO330; clear HO333; clear HO337; clear BK320; clear HB; have HO323 := n0_; have HO330 := n1_; have HO333 := n2_; have HO337 := n3_; have HO340 := n4_; have BK320 := n5_; have HB := n6_; clear n0_ n1_ n2_ n3_ n4_ n5_ n6_; (try clear hb); (try clear hb2); (try clear hk); (try clear hi); (try clear ho0); obtain ⟨Ao36, co36, eo36⟩ := Kd.V_slice HO340.out; subst eo36) | (go_at_call 22; (with_reducible refine (job_Busy.calls k _ _ y321 t341 _ ?side1 ?side2 A16.out).mono ?_); (case side1 => exact mC (Kd.R_reads' HO323.out).2.2); (case side2 => exact (Kd.R_reads' HO323.out).2.1); rintro e w37 ⟨v342, rfl, ho0, hb⟩; have n0_ := Aside0.mk (Kd.R_below (mR HO323.out) hb); have n1_ := Aside0.mk (Kd.V_below (mV HO330.out) hb); have n2_ := Aside0.mk (Kd.R_below (mR HO333.out) hb); have n3_ := Aside0.mk (Kd.V_below (mV HO337.out) hb); have n4_ := Aside0.mk (Kd.V_below (mV HO340.out) hb); have n5_ := Aside0.mk (Kd.V_lower (Kd.V_mono (ok' := fun k_ => some k_ ≠ (.slice Ao24 y321.length co24 : Value).ownBlock ∧ some k_ ≠ (.slice Ao32 y331.length co32 : Value).ownBlock ∧ k_ ≠ gb320) ho0 (fun k_ hk_ => ⟨(Kd.fresh' (Kd.R_lt (mR HO323.out)) k_ hk_), (Kd.fresh' (Kd.R_lt (mR HO333.out)) k_ hk_), (Kd.freshB (g := gb320) (o := .cells #[.int .i64 3, .int .i64 0, .int .i64 2, .int .i64 10, .int .i64 0, .int .i64 0, .int .i64 0, .int .i64 3, .int .i64 5, .int .i64 9, .int .i64 0, .slice none 0 0] 32 (0, 0)) (mBK BK320.out) k_ hk_)⟩)) (below_size (mBs HB.out))); have n6_ := Aside0.mk (blk_below (g := gb320) (o := .cells #[.int .i64 3, .int .i64 0, .int .i64 2, .int .i64 10, .int .i64 0, .int .i64 0, .int .i64 0, .int .i64 3, .int .i64 5, .int .i64 9, .int .i64 0, .slice none 0 0] 32 (0, 0)) (mBK BK320.out) hb); have n7_ := Aside0.mk (below_step (mBs HB.out) hb); clear HO323; clear HO330; clear HO333; clear HO337; clear HO340; clear BK320; clear HB; have HO323 := n0_; have HO330 := n1_; have HO333 := n2_; have HO337 := n3_; have HO340 := n4_; have HO343 := n5_; have BK320 := n6_; have HB := n7_; clear n0_ n1_ n2_ n3_ n4_ n5_ n6_ n7_; (try clear hb); (try clear hb2); (try clear hk); (try clear hi); (try clear ho0)) | ((with_reducible refine gate_dst (N := 46) rfl ?_); (try (refine gate_guard (by rfl) ?_; dsimp only)); refine Kd.R_lit k59 _ 59 ?hg (N := 46) ?hd (xs := ([(⟨15, 2⟩ : S59)] : List (S59))) (inner := [.int .i64 15, .int .i64 2]) (ok := fun _ => True) (okp := fun _ => True) ?hr ?hp (fun _ hk => hk) trivial (Below.refl _ _) (Nat.le_refl _) (by simp) ?_; (case hd => rfl); (case hg => rfl); (case hr => first | (go_simp; done) | (go_simp; rfl)); (case hp => exact (Reps.c2 (show Kd.M k59 _ _ _ (⟨15, 2⟩ : S59) [.int .i64 15, .int .i64 2] from (k59_mkM _ _ _ (⟨15, 2⟩ : S59) )) (Reps.none _ _))); intro v345 w38 ho39 hb hg_ hnew_; clear hg_ hnew_; (first | rw [← Ny344.out] at ho39 | (simp only [Int.reduceToNat] at ho39; rw [← Ny344.out] at ho39)); have n0_ := Aside0.mk (Kd.R_below (mR HO323.out) hb); have n1_ := Aside0.mk (Kd.V_elder' (mV HO330.out) (Kd.R_base ho39) hb); have n2_ := Aside0.mk (Kd.R_below (mR HO333.out) hb); have n3_ := Aside0.mk (Kd.V_elder' (mV HO337.out) (Kd.R_base ho39) hb); have n4_ := Aside0.mk (Kd.V_elder' (mV HO340.out) (Kd.R_base ho39) hb); have n5_ := Aside0.mk (Kd.V_elder' (mV HO343.out) (Kd.R_base ho39) hb); have n6_ := Aside0.mk (Kd.R_lower ho39 (below_size (mBs HB.out))); have n7_ := Aside0.mk (blk_below (g := gb320) (o := .cells #[.int .i64 3, .int .i64 0, .int .i64 2, .int .i64 10, .int .i64 0, .int .i64 0, .int .i64 0, .int .i64 3, .int .i64 5, .int .i64 9, .int .i64 0, .slice none 0 0] 32 (0, 0)) (mBK BK320.out) hb); have n8_ := Aside0.mk (below_step (mBs HB.out) hb); clear HO323; clear HO330; clear HO333; clear HO337; clear HO340; clear HO343; clear BK320; clear HB; have HO323 := n0_; have HO330 := n1_; have HO333 := n2_; have HO337 := n3_; have HO340 := n4_; have HO343 := n5_; have HO346 := n6_; have BK320 := n7_; have HB := n8_; clear n0_ n1_ n2_ n3_ n4_ n5_ n6_ n7_ n8_; clear hb ho39; obtain ⟨Ao40, co40, eo40⟩ := Kd.V_slice HO343.out; subst eo40; obtain ⟨Ao41, co41, eo41⟩ := Kd.R_slice HO346.out; subst eo41) | (go_at_call 21; (with_reducible refine (prebendref19_SameBusy.calls k _ _ t341 _ _ y344 true _ ?side1 ?side2 ?side3 ?side4 A17.out).mono ?_); (case side1 => exact mC (Kd.V_reads' HO343.out).2.2); (case side2 => exact (Kd.V_reads' HO343.out).2.1); (case side3 => exact mC (Kd.R_reads' HO346.out).2.2); (case side4 => exact (Kd.R_reads' HO346.out).2.1); rintro e w' ⟨rfl, ⟨nd, rfl⟩⟩))
        go_ret
        exact ⟨by first | rfl | (simp [errW_none, errW_some] <;> rfl) | (simp [*, errW_none, errW_some] <;> rfl), by repeat (first | (with_reducible first | exact HB.out | apply below_alloc | apply pw_below_drewN | apply below_drew1 | refine below_set ?_ GE320.out) | exact HB.out)⟩
       ·rw [if_neg c15] at H
        exact absurd (Option.some.inj H) (by decide)
      ·rw [if_neg c13] at H
       exact absurd (Option.some.inj H) (by decide)
     ·replace c11 := Bool.eq_false_iff.mpr c11
      subst c11
      have H1 : (some false) = some true := by rw [if_neg (show ¬ (false = true) by decide)] at H; exact H
      exact absurd (Option.some.inj H1) (by decide)
    ·rw [if_neg c8] at H
     exact absurd (Option.some.inj H) (by decide)
   ·rw [if_neg c6] at H
    exact absurd (Option.some.inj H) (by decide)
  ·rw [if_neg c4] at H
   exact absurd (Option.some.inj H) (by decide)
 ·replace c2 := Bool.eq_false_iff.mpr c2
  subst c2
  have H1 : (some false) = some true := by rw [if_neg (show ¬ (false = true) by decide)] at H; exact H
  exact absurd (Option.some.inj H1) (by decide)end Go.Proofs.Ytkhfgflcanmefaa.PAll
end
section
namespace Go.Proofs.Ytkhfgflcanmefaa.PAll
open Go.RowKit Go.Proofs.YtkhfgflcanmefaaW.PrintWords Go.Proofs.YtkhfgflcanmefaaW.PrintLast Go.Proofs.YtkhfgflcanmefaaW.PrintMore
attribute [local go_sem] max2_int min2_int max_two min_two max_three min_three max_four min_four   -- for this text's walks alone
set_option linter.unusedVariables false
set_option linter.unusedSimpArgs false

mutual
def prebendlaw19_JobEnds.l0 : Nat → Int → List (S32) → List Int → List Int → Int → Option (Bool)
 | 0, _, _, _, _, _ => none
 | k + 1, x1, x7, x8, x9, x10 => if x10 < (x8.length : Int) then (prebendlaw19_JobEnds.l1 k x1 x7 x8 x9 x10 false 0) else ((prebendlaw19_awake.f k).bind fun t515 => (if t515 = true then (some (decide ((x9.length : Int) ≥ (x8.length : Int)))) else (some false)))
def prebendlaw19_JobEnds.l1 : Nat → Int → List (S32) → List Int → List Int → Int → Bool → Int → Option (Bool)
 | 0, _, _, _, _, _, _, _ => none
 | k + 1, x1, x7, x8, x9, x10, x11, x12 => if x12 < (x7.length : Int) then (if x11 = true then (prebendlaw19_JobEnds.l1 k x1 x7 x8 x9 x10 true (wrap64 (x12 + 1))) else (if 0 ≤ x12 then (if 0 ≤ x10 then (if x10 < (x8.length : Int) then (if ((rd_T32 x7 x12).f0) = (rd x8 x10) then (if ((rd_T32 x7 x12).f7) = 3 then (prebendlaw19_JobEnds.l1 k x1 x7 x8 x9 x10 (decide ((wrap64 (((rd_T32 x7 x12).f8) + ((rd_T32 x7 x12).f3))) ≤ (wrap64 (x1)))) (wrap64 (x12 + 1))) else (prebendlaw19_JobEnds.l1 k x1 x7 x8 x9 x10 false (wrap64 (x12 + 1)))) else (prebendlaw19_JobEnds.l1 k x1 x7 x8 x9 x10 false (wrap64 (x12 + 1)))) else (none)) else (none)) else (none))) else (if x11 = true then (if x10 ≥ (x9.length : Int) then (some false) else (if 0 ≤ x10 then (if x10 < (x9.length : Int) then (if x10 < (x8.length : Int) then (if (rd x9 x10) = (rd x8 x10) then (prebendlaw19_JobEnds.l0 k x1 x7 x8 x9 (wrap64 (x10 + 1))) else (some false)) else (none)) else (none)) else (none))) else (some false))
end
def prebendlaw19_JobEnds.f (k : Nat) (l0 : List (S32)) (a1 : Int) (a2 : Int) : Option (Bool) := (prebendref19_Held.f k l0).bind fun t506 => ((job_Due.f k t506 (wrap64 (a1))).bind fun t509 => ((job_Due.f k t506 (wrap64 ((wrap64 (a1)) + (wrap64 (a2))))).bind fun t512 => (prebendlaw19_JobEnds.l0 k a1 t506 t509 t512 0)))
theorem prebendlaw19_JobEnds.mono_l : ∀ k, (∀ y0 y1 y2 y3 y4, LeO (prebendlaw19_JobEnds.l0 k y0 y1 y2 y3 y4) (prebendlaw19_JobEnds.l0 (k + 1) y0 y1 y2 y3 y4)) ∧ (∀ y0 y1 y2 y3 y4 y5 y6, LeO (prebendlaw19_JobEnds.l1 k y0 y1 y2 y3 y4 y5 y6) (prebendlaw19_JobEnds.l1 (k + 1) y0 y1 y2 y3 y4 y5 y6))
 | 0 => ⟨fun _ _ _ _ _ r h => by simp [prebendlaw19_JobEnds.l0] at h, fun _ _ _ _ _ _ _ r h => by simp [prebendlaw19_JobEnds.l1] at h⟩
 | k + 1 => by
  obtain ⟨ih0, ih1⟩ := prebendlaw19_JobEnds.mono_l k
  refine ⟨?_, ?_⟩
  ·intro y0 y1 y2 y3 y4
   unfold prebendlaw19_JobEnds.l0
   repeat' first
   | (with_reducible exact ih0 _ _ _ _ _)
   | (with_reducible exact ih1 _ _ _ _ _ _ _)
   | (with_reducible exact job_Due.mono _ _ _)
   | (with_reducible exact prebendlaw19_awake.mono _)
   | (with_reducible exact prebendref19_Held.mono _ _)
   | (with_reducible exact LeO.refl _)
   | (with_reducible exact LeO.none _)
   | (with_reducible refine LeO.ite ?_ ?_)
   | (with_reducible refine LeO.bind ?_ (fun _ => ?_))
   | exact ih0 _ _ _ _ _
   | exact ih1 _ _ _ _ _ _ _
   | exact job_Due.mono _ _ _
   | exact prebendlaw19_awake.mono _
   | exact prebendref19_Held.mono _ _
   | exact LeO.none _
   | refine LeO.ite ?_ ?_
   | refine LeO.bind ?_ (fun _ => ?_)
  ·intro y0 y1 y2 y3 y4 y5 y6
   unfold prebendlaw19_JobEnds.l1
   repeat' first
   | (with_reducible exact ih0 _ _ _ _ _)
   | (with_reducible exact ih1 _ _ _ _ _ _ _)
   | (with_reducible exact job_Due.mono _ _ _)
   | (with_reducible exact prebendlaw19_awake.mono _)
   | (with_reducible exact prebendref19_Held.mono _ _)
   | (with_reducible exact LeO.refl _)
   | (with_reducible exact LeO.none _)
   | (with_reducible refine LeO.ite ?_ ?_)
   | (with_reducible refine LeO.bind ?_ (fun _ => ?_))
   | exact ih0 _ _ _ _ _
   | exact ih1 _ _ _ _ _ _ _
   | exact job_Due.mono _ _ _
   | exact prebendlaw19_awake.mono _
   | exact prebendref19_Held.mono _ _
   | exact LeO.none _
   | refine LeO.ite ?_ ?_
   | refine LeO.bind ?_ (fun _ => ?_)
theorem prebendlaw19_JobEnds.mono : ∀ a0 a1 a2 k, LeO (prebendlaw19_JobEnds.f k a0 a1 a2) (prebendlaw19_JobEnds.f (k + 1) a0 a1 a2) := by
 intro a0 a1 a2 k
 obtain ⟨ih0, ih1⟩ := prebendlaw19_JobEnds.mono_l k
 unfold prebendlaw19_JobEnds.f
 repeat' first
   | (with_reducible exact ih0 _ _ _ _ _)
   | (with_reducible exact ih1 _ _ _ _ _ _ _)
   | (with_reducible exact job_Due.mono _ _ _)
   | (with_reducible exact prebendlaw19_awake.mono _)
   | (with_reducible exact prebendref19_Held.mono _ _)
   | (with_reducible exact LeO.refl _)
   | (with_reducible exact LeO.none _)
   | (with_reducible refine LeO.ite ?_ ?_)
   | (with_reducible refine LeO.bind ?_ (fun _ => ?_))
   | exact ih0 _ _ _ _ _
   | exact ih1 _ _ _ _ _ _ _
   | exact job_Due.mono _ _ _
   | exact prebendlaw19_awake.mono _
   | exact prebendref19_Held.mono _ _
   | exact LeO.none _
   | refine LeO.ite ?_ ?_
   | refine LeO.bind ?_ (fun _ => ?_)
set_option maxHeartbeats 8000000 in
set_option maxRecDepth 100000 in
theorem prebendlaw19_JobEnds.calls (k : Nat) (A0 : Option Addr) (c0 : Nat) (l0 : List (S32)) (a1 : Int) (a2 : Int) (w : World) (hr0 : Kd.C k32 w A0 l0.length l0) (hc0 : l0.length ≤ c0) (h : prebendlaw19_JobEnds.f k l0 a1 a2 = some true) :
  Calls Try.prog 7 #[.slice A0 l0.length c0, .int .u16 a1, .int .u16 a2] w fun e w' => e = .returned (.bool true) ∧ Below w.heap.size w w' := by
 have HR0 := Aside0.mk hr0
 have HC0 := Aside0.mk hc0
 clear hr0; clear hc0
 have HB := Aside0.mk (Below.refl w.heap.size w)
 have H : ((prebendref19_Held.f k l0).bind fun t506 => ((job_Due.f k t506 (wrap64 (a1))).bind fun t509 => ((job_Due.f k t506 (wrap64 ((wrap64 (a1)) + (wrap64 (a2))))).bind fun t512 => (prebendlaw19_JobEnds.l0 k a1 t506 t509 t512 0)))) = some true := h
 clear h
 replace H := Option.bind_eq_some_iff.mp H
 obtain ⟨t506, A40, H⟩ := H
 replace H : ((job_Due.f k t506 (wrap64 (a1))).bind fun t509 => ((job_Due.f k t506 (wrap64 ((wrap64 (a1)) + (wrap64 (a2))))).bind fun t512 => (prebendlaw19_JobEnds.l0 k a1 t506 t509 t512 0))) = some true := H
 have A4 := Aside0.mk A40
 clear A40
 replace H := Option.bind_eq_some_iff.mp H
 obtain ⟨t509, A50, H⟩ := H
 replace H : ((job_Due.f k t506 (wrap64 ((wrap64 (a1)) + (wrap64 (a2))))).bind fun t512 => (prebendlaw19_JobEnds.l0 k a1 t506 t509 t512 0)) = some true := H
 have A5 := Aside0.mk A50
 clear A50
 replace H := Option.bind_eq_some_iff.mp H
 obtain ⟨t512, A60, H⟩ := H
 replace H : (prebendlaw19_JobEnds.l0 k a1 t506 t509 t512 0) = some true := H
 have A6 := Aside0.mk A60
 clear A60
 have H' := Aside0.mk H
 clear H
 go_enter Try.func7, Try.ntmps7
 go_wp2_with (first | (go_at_call 15; (with_reducible refine (prebendref19_Held.calls k _ _ l0 t506 _ ?side1 ?side2 A4.out).mono ?_); (case side1 => exact mC HR0.out); (case side2 => exact HC0.out); rintro e w7 ⟨v507, rfl, ho0, hb⟩; have n0_ := Aside0.mk (Kd.R_lower ho0 (below_size (mB HB.out))); have n1_ := Aside0.mk (below_step (mB HB.out) hb); clear HB; have HO508 := n0_; have HB := n1_; clear n0_ n1_; (try clear hb); (try clear hb2); (try clear hk); (try clear hi); (try clear ho0); obtain ⟨Ao8, co8, eo8⟩ := Kd.R_slice HO508.out; subst eo8) | (go_at_call 27; (with_reducible refine (job_Due.calls k _ _ t506 (wrap64 (a1)) t509 _ ?side1 ?side2 A5.out).mono ?_); (case side1 => exact mC (Kd.R_reads' HO508.out).2.2); (case side2 => exact (Kd.R_reads' HO508.out).2.1); rintro e w9 ⟨v510, rfl, ho0, hb⟩; have n0_ := Aside0.mk (Kd.R_below (mR HO508.out) hb); have n1_ := Aside0.mk (Kd.V_lower (Kd.V_mono (ok' := fun k_ => some k_ ≠ (.slice Ao8 t506.length co8 : Value).ownBlock) ho0 (fun k_ hk_ => (Kd.fresh' (Kd.R_lt (mR HO508.out)) k_ hk_))) (below_size (mB HB.out))); have n2_ := Aside0.mk (below_step (mB HB.out) hb); clear HO508; clear HB; have HO508 := n0_; have HO511 := n1_; have HB := n2_; clear n0_ n1_ n2_; (try clear hb); (try clear hb2); (try clear hk); (try clear hi); (try clear ho0)) | (go_at_call 27; (with_reducible refine (job_Due.calls k _ _ t506 (wrap64 ((wrap64 (a1)) + (wrap64 (a2)))) t512 _ ?side1 ?side2 A6.out).mono ?_); (case side1 => exact mC (Kd.R_reads' HO508.out).2.2); (case side2 => exact (Kd.R_reads' HO508.out).2.1); rintro e w10 ⟨v513, rfl, ho0, hb⟩; have n0_ := Aside0.mk (Kd.R_below (mR HO508.out) hb); have n1_ := Aside0.mk (Kd.V_below (mV HO511.out) hb); have n2_ := Aside0.mk (Kd.V_lower (Kd.V_mono (ok' := fun k_ => some k_ ≠ (.slice Ao8 t506.length co8 : Value).ownBlock) ho0 (fun k_ hk_ => (Kd.fresh' (Kd.R_lt (mR HO508.out)) k_ hk_))) (below_size (mB HB.out))); have n3_ := Aside0.mk (below_step (mB HB.out) hb); clear HO508; clear HO511; clear HB; have HO508 := n0_; have HO511 := n1_; have HO514 := n2_; have HB := n3_; clear n0_ n1_ n2_ n3_; (try clear hb); (try clear hb2); (try clear hk); (try clear hi); (try clear ho0)))
 repeat (go_quiet (first | (go_at_call 15; (with_reducible refine (prebendref19_Held.calls k _ _ l0 t506 _ ?side1 ?side2 A4.out).mono ?_); (case side1 => exact mC HR0.out); (case side2 => exact HC0.out); rintro e w7 ⟨v507, rfl, ho0, hb⟩; have n0_ := Aside0.mk (Kd.R_lower ho0 (below_size (mB HB.out))); have n1_ := Aside0.mk (below_step (mB HB.out) hb); clear HB; have HO508 := n0_; have HB := n1_; clear n0_ n1_; (try clear hb); (try clear hb2); (try clear hk); (try clear hi); (try clear ho0); obtain ⟨Ao8, co8, eo8⟩ := Kd.R_slice HO508.out; subst eo8) | (go_at_call 27; (with_reducible refine (job_Due.calls k _ _ t506 (wrap64 (a1)) t509 _ ?side1 ?side2 A5.out).mono ?_); (case side1 => exact mC (Kd.R_reads' HO508.out).2.2); (case side2 => exact (Kd.R_reads' HO508.out).2.1); rintro e w9 ⟨v510, rfl, ho0, hb⟩; have n0_ := Aside0.mk (Kd.R_below (mR HO508.out) hb); have n1_ := Aside0.mk (Kd.V_lower (Kd.V_mono (ok' := fun k_ => some k_ ≠ (.slice Ao8 t506.length co8 : Value).ownBlock) ho0 (fun k_ hk_ => (Kd.fresh' (Kd.R_lt (mR HO508.out)) k_ hk_))) (below_size (mB HB.out))); have n2_ := Aside0.mk (below_step (mB HB.out) hb); clear HO508; clear HB; have HO508 := n0_; have HO511 := n1_; have HB := n2_; clear n0_ n1_ n2_; (try clear hb); (try clear hb2); (try clear hk); (try clear hi); (try clear ho0)) | (go_at_call 27; (with_reducible refine (job_Due.calls k _ _ t506 (wrap64 ((wrap64 (a1)) + (wrap64 (a2)))) t512 _ ?side1 ?side2 A6.out).mono ?_); (case side1 => exact mC (Kd.R_reads' HO508.out).2.2); (case side2 => exact (Kd.R_reads' HO508.out).2.1); rintro e w10 ⟨v513, rfl, ho0, hb⟩; have n0_ := Aside0.mk (Kd.R_below (mR HO508.out) hb); have n1_ := Aside0.mk (Kd.V_below (mV HO511.out) hb); have n2_ := Aside0.mk (Kd.V_lower (Kd.V_mono (ok' := fun k_ => some k_ ≠ (.slice Ao8 t506.length co8 : Value).ownBlock) ho0 (fun k_ hk_ => (Kd.fresh' (Kd.R_lt (mR HO508.out)) k_ hk_))) (below_size (mB HB.out))); have n3_ := Aside0.mk (below_step (mB HB.out) hb); clear HO508; clear HO511; clear HB; have HO508 := n0_; have HO511 := n1_; have HO514 := n2_; have HB := n3_; clear n0_ n1_ n2_ n3_; (try clear hb); (try clear hb2); (try clear hk); (try clear hi); (try clear ho0))); try go_wp2_with (first | (go_at_call 15; (with_reducible refine (prebendref19_Held.calls k _ _ l0 t506 _ ?side1 ?side2 A4.out).mono ?_); (case side1 => exact mC HR0.out); (case side2 => exact HC0.out); rintro e w7 ⟨v507, rfl, ho0, hb⟩; have n0_ := Aside0.mk (Kd.R_lower ho0 (below_size (mB HB.out))); have n1_ := Aside0.mk (below_step (mB HB.out) hb); clear HB; have HO508 := n0_; have HB := n1_; clear n0_ n1_; (try clear hb); (try clear hb2); (try clear hk); (try clear hi); (try clear ho0); obtain ⟨Ao8, co8, eo8⟩ := Kd.R_slice HO508.out; subst eo8) | (go_at_call 27; (with_reducible refine (job_Due.calls k _ _ t506 (wrap64 (a1)) t509 _ ?side1 ?side2 A5.out).mono ?_); (case side1 => exact mC (Kd.R_reads' HO508.out).2.2); (case side2 => exact (Kd.R_reads' HO508.out).2.1); rintro e w9 ⟨v510, rfl, ho0, hb⟩; have n0_ := Aside0.mk (Kd.R_below (mR HO508.out) hb); have n1_ := Aside0.mk (Kd.V_lower (Kd.V_mono (ok' := fun k_ => some k_ ≠ (.slice Ao8 t506.length co8 : Value).ownBlock) ho0 (fun k_ hk_ => (Kd.fresh' (Kd.R_lt (mR HO508.out)) k_ hk_))) (below_size (mB HB.out))); have n2_ := Aside0.mk (below_step (mB HB.out) hb); clear HO508; clear HB; have HO508 := n0_; have HO511 := n1_; have HB := n2_; clear n0_ n1_ n2_; (try clear hb); (try clear hb2); (try clear hk); (try clear hi); (try clear ho0)) | (go_at_call 27; (with_reducible refine (job_Due.calls k _ _ t506 (wrap64 ((wrap64 (a1)) + (wrap64 (a2)))) t512 _ ?side1 ?side2 A6.out).mono ?_); (case side1 => exact mC (Kd.R_reads' HO508.out).2.2); (case side2 => exact (Kd.R_reads' HO508.out).2.1); rintro e w10 ⟨v513, rfl, ho0, hb⟩; have n0_ := Aside0.mk (Kd.R_below (mR HO508.out) hb); have n1_ := Aside0.mk (Kd.V_below (mV HO511.out) hb); have n2_ := Aside0.mk (Kd.V_lower (Kd.V_mono (ok' := fun k_ => some k_ ≠ (.slice Ao8 t506.length co8 : Value).ownBlock) ho0 (fun k_ hk_ => (Kd.fresh' (Kd.R_lt (mR HO508.out)) k_ hk_))) (below_size (mB HB.out))); have n3_ := Aside0.mk (below_step (mB HB.out) hb); clear HO508; clear HO511; clear HB; have HO508 := n0_; have HO511 := n1_; have HO514 := n2_; have HB := n3_; clear n0_ n1_ n2_ n3_; (try clear hb); (try clear hb2); (try clear hk); (try clear hi); (try clear ho0))))
 go_loopg [10] k (fun kq v10 w' => ∃ (x10_1 : Int), v10 = .int .i64 x10_1 ∧ Aside0 (prebendlaw19_JobEnds.l0 kq a1 t506 t509 t512 x10_1 = some true) ∧ Aside0 (kq ≤ k) ∧ Aside0 (Kd.R k32 32 w' w.heap.size (fun _ => True) (.slice Ao8 t506.length co8) t506) ∧ Aside0 (Kd.V (Kd.int .i64) 3 w' w.heap.size (fun k_ => some k_ ≠ ((.slice Ao8 t506.length co8) : Value).ownBlock) v510 t509) ∧ Aside0 (Kd.V (Kd.int .i64) 3 w' w.heap.size (fun k_ => some k_ ≠ ((.slice Ao8 t506.length co8) : Value).ownBlock) v513 t512) ∧ Aside0 (Below w.heap.size w w'))
 case atStart => exact ⟨(0), ez, H', ⟨Nat.le_refl _⟩, ⟨mR HO508.out⟩, ⟨mV HO511.out⟩, ⟨mV HO514.out⟩, ⟨mB HB.out⟩⟩
 case round =>
  clear H'
  (try clear p2); (try clear p6); (try clear c7)
  obtain ⟨x10_1, rfl, HA, HK1, HO_7, HO_8, HO_9, HB⟩ := hrel
  cases gk with
  | zero => exact absurd HA.out (by simp [prebendlaw19_JobEnds.l0])
  | succ k1 =>
   have H := HA.out
   clear HA
   simp only [prebendlaw19_JobEnds.l0] at H
   by_cases c11 : x10_1 < (t509.length : Int)
   ·rw [if_pos c11] at H
    have c11b0 : decide (x10_1 < (t509.length : Int)) = true := decide_eq_true c11
    clear c11
    have H' := Aside0.mk H
    clear H
    obtain ⟨Ao12, co12, eo12⟩ := Kd.V_slice HO_8.out
    subst eo12
    go_wp2
    repeat (go_quiet (fail); try go_wp2)
    go_loopg [11, 12] k1 (fun kq v11 v12 w' => ∃ (x11_2 : Bool) (x12_2 : Int), v11 = .bool x11_2 ∧ v12 = .int .i64 x12_2 ∧ Aside0 (prebendlaw19_JobEnds.l1 kq a1 t506 t509 t512 x10_1 x11_2 x12_2 = some true) ∧ Aside0 (kq ≤ k1) ∧ Aside0 (Kd.R k32 32 w' w.heap.size (fun _ => True) (.slice Ao8 t506.length co8) t506) ∧ Aside0 (Kd.V (Kd.int .i64) 3 w' w.heap.size (fun k_ => some k_ ≠ ((.slice Ao8 t506.length co8) : Value).ownBlock) (.slice Ao12 t509.length co12) t509) ∧ Aside0 (Kd.V (Kd.int .i64) 3 w' w.heap.size (fun k_ => some k_ ≠ ((.slice Ao8 t506.length co8) : Value).ownBlock) v513 t512) ∧ Aside0 (Below w.heap.size w w'))
    case atStart => exact ⟨(false), (0), ez, ez, H', ⟨Nat.le_refl _⟩, ⟨mR HO_7.out⟩, ⟨mV HO_8.out⟩, ⟨mV HO_9.out⟩, ⟨mB HB.out⟩⟩
    case round =>
     clear H'
     (try clear c1); (try clear p2); (try clear p6); (try clear c7); (try clear c11); (try clear c11b0); (try clear p2); (try clear p6)
     obtain ⟨x11_2, x12_2, rfl, rfl, HA, HK2, HO_7, HO_8, HO_9, HB⟩ := hrel
     cases gk with
     | zero => exact absurd HA.out (by simp [prebendlaw19_JobEnds.l1])
     | succ k2 =>
      have H := HA.out
      clear HA
      simp only [prebendlaw19_JobEnds.l1] at H
      by_cases c13 : x12_2 < (t506.length : Int)
      ·rw [if_pos c13] at H
       have c13b0 : decide (x12_2 < (t506.length : Int)) = true := decide_eq_true c13
       clear c13
       by_cases c14 : x11_2 = true
       ·subst c14
        have H1 : (prebendlaw19_JobEnds.l1 k2 a1 t506 t509 t512 x10_1 true (wrap64 (x12_2 + 1))) = some true := by rw [if_pos rfl] at H; exact H
        clear H
        have H := H1
        clear H1
        have H' := Aside0.mk H
        clear H
        go_wp2
        repeat (go_quiet (fail); try go_wp2)
        go_roundg k2
        case measure => have := HK1.out; have := HK2.out; omega
        case rel => exact ⟨(true), (wrap64 (x12_2 + 1)), ez, ez, H', ⟨by have := HK1.out; have := HK2.out; omega⟩, ⟨mR HO_7.out⟩, ⟨mV HO_8.out⟩, ⟨mV HO_9.out⟩, ⟨mB HB.out⟩⟩
       ·replace c14 := Bool.eq_false_iff.mpr c14
        subst c14
        have H1 : (if 0 ≤ x12_2 then (if 0 ≤ x10_1 then (if x10_1 < (t509.length : Int) then (if ((rd_T32 t506 x12_2).f0) = (rd t509 x10_1) then (if ((rd_T32 t506 x12_2).f7) = 3 then (prebendlaw19_JobEnds.l1 k2 a1 t506 t509 t512 x10_1 (decide ((wrap64 (((rd_T32 t506 x12_2).f8) + ((rd_T32 t506 x12_2).f3))) ≤ (wrap64 (a1)))) (wrap64 (x12_2 + 1))) else (prebendlaw19_JobEnds.l1 k2 a1 t506 t509 t512 x10_1 false (wrap64 (x12_2 + 1)))) else (prebendlaw19_JobEnds.l1 k2 a1 t506 t509 t512 x10_1 false (wrap64 (x12_2 + 1)))) else (none)) else (none)) else (none)) = some true := by rw [if_neg (show ¬ (false = true) by decide)] at H; exact H
        clear H
        have H := H1
        clear H1
        by_cases c15 : 0 ≤ x12_2
        ·rw [if_pos c15] at H
         have c15b0 : decide (0 ≤ x12_2) = true := decide_eq_true c15
         clear c15
         by_cases c16 : 0 ≤ x10_1
         ·rw [if_pos c16] at H
          have c16b0 : decide (0 ≤ x10_1) = true := decide_eq_true c16
          clear c16
          by_cases c17 : x10_1 < (t509.length : Int)
          ·rw [if_pos c17] at H
           have c17b0 : decide (x10_1 < (t509.length : Int)) = true := decide_eq_true c17
           clear c17
           by_cases c18 : ((rd_T32 t506 x12_2).f0) = (rd t509 x10_1)
           ·rw [if_pos c18] at H
            have c18b0 : (((rd_T32 t506 x12_2).f0) == (rd t509 x10_1)) = true := beq_iff_eq.mpr c18
            have c18b1 : (((rd_T32 t506 x12_2).f0) != (rd t509 x10_1)) = false := bne_eq_false_iff_eq.mpr c18
            clear c18
            by_cases c19 : ((rd_T32 t506 x12_2).f7) = 3
            ·rw [if_pos c19] at H
             have c19b0 : (((rd_T32 t506 x12_2).f7) == 3) = true := beq_iff_eq.mpr c19
             have c19b1 : (((rd_T32 t506 x12_2).f7) != 3) = false := bne_eq_false_iff_eq.mpr c19
             clear c19
             have H' := Aside0.mk H
             clear H
             have p516 : 0 ≤ (x12_2 : Int) := oda
             have q516 : x12_2 < (t506.length : Int) := oda
             obtain ⟨ad516, e516, hx516_0, hx516_1, hx516_2, hx516_3, hx516_4, hx516_5, hx516_6, hx516_7, hx516_8, hx516_9, hx516_10, hx516_11⟩ := at_T32 (Kd.R_reads' HO_7.out).2.2 x12_2 p516 q516
             cases e516
             replace p516 := eq_true p516
             replace q516 := eq_true q516
             have p517 : 0 ≤ (x10_1 : Int) := oda
             have q517 : x10_1 < (t509.length : Int) := oda
             obtain ⟨ad517, e517, hx517_0⟩ := Kd.at_int (Kd.V_reads' HO_8.out).2.2 x10_1 p517 q517
             cases e517
             replace p517 := eq_true p517
             replace q517 := eq_true q517
             have p518 : 0 ≤ (x12_2 : Int) := oda
             have q518 : x12_2 < (t506.length : Int) := oda
             obtain ⟨ad518, e518, hx518_0, hx518_1, hx518_2, hx518_3, hx518_4, hx518_5, hx518_6, hx518_7, hx518_8, hx518_9, hx518_10, hx518_11⟩ := at_T32 (Kd.R_reads' HO_7.out).2.2 x12_2 p518 q518
             obtain rfl : ad516 = ad518 := (by injection e518)
             replace p518 := eq_true p518
             replace q518 := eq_true q518
             have p519 : 0 ≤ (x12_2 : Int) := oda
             have q519 : x12_2 < (t506.length : Int) := oda
             obtain ⟨ad519, e519, hx519_0, hx519_1, hx519_2, hx519_3, hx519_4, hx519_5, hx519_6, hx519_7, hx519_8, hx519_9, hx519_10, hx519_11⟩ := at_T32 (Kd.R_reads' HO_7.out).2.2 x12_2 p519 q519
             obtain rfl : ad516 = ad519 := (by injection e519)
             replace p519 := eq_true p519
             replace q519 := eq_true q519
             have p520 : 0 ≤ (x12_2 : Int) := oda
             have q520 : x12_2 < (t506.length : Int) := oda
             obtain ⟨ad520, e520, hx520_0, hx520_1, hx520_2, hx520_3, hx520_4, hx520_5, hx520_6, hx520_7, hx520_8, hx520_9, hx520_10, hx520_11⟩ := at_T32 (Kd.R_reads' HO_7.out).2.2 x12_2 p520 q520
             obtain rfl : ad516 = ad520 := (by injection e520)
             replace p520 := eq_true p520
             replace q520 := eq_true q520
             go_wp2
             repeat (go_quiet (fail); try go_wp2)
             go_roundg k2
             case measure => have := HK1.out; have := HK2.out; omega
             case rel => exact ⟨(decide ((wrap64 (((rd_T32 t506 x12_2).f8) + ((rd_T32 t506 x12_2).f3))) ≤ (wrap64 (a1)))), (wrap64 (x12_2 + 1)), ez, ez, H', ⟨by have := HK1.out; have := HK2.out; omega⟩, ⟨mR HO_7.out⟩, ⟨mV HO_8.out⟩, ⟨mV HO_9.out⟩, ⟨mB HB.out⟩⟩
            ·rw [if_neg c19] at H
             have c19b0 : (((rd_T32 t506 x12_2).f7) == 3) = false := beq_eq_false_iff_ne.mpr c19
             have c19b1 : (((rd_T32 t506 x12_2).f7) != 3) = true := bne_iff_ne.mpr c19
             have H' := Aside0.mk H
             clear H
             have p516 : 0 ≤ (x12_2 : Int) := oda
             have q516 : x12_2 < (t506.length : Int) := oda
             obtain ⟨ad516, e516, hx516_0, hx516_1, hx516_2, hx516_3, hx516_4, hx516_5, hx516_6, hx516_7, hx516_8, hx516_9, hx516_10, hx516_11⟩ := at_T32 (Kd.R_reads' HO_7.out).2.2 x12_2 p516 q516
             cases e516
             replace p516 := eq_true p516
             replace q516 := eq_true q516
             have p517 : 0 ≤ (x10_1 : Int) := oda
             have q517 : x10_1 < (t509.length : Int) := oda
             obtain ⟨ad517, e517, hx517_0⟩ := Kd.at_int (Kd.V_reads' HO_8.out).2.2 x10_1 p517 q517
             cases e517
             replace p517 := eq_true p517
             replace q517 := eq_true q517
             have p518 : 0 ≤ (x12_2 : Int) := oda
             have q518 : x12_2 < (t506.length : Int) := oda
             obtain ⟨ad518, e518, hx518_0, hx518_1, hx518_2, hx518_3, hx518_4, hx518_5, hx518_6, hx518_7, hx518_8, hx518_9, hx518_10, hx518_11⟩ := at_T32 (Kd.R_reads' HO_7.out).2.2 x12_2 p518 q518
             obtain rfl : ad516 = ad518 := (by injection e518)
             replace p518 := eq_true p518
             replace q518 := eq_true q518
             go_wp2
             repeat (go_quiet (fail); try go_wp2)
             go_roundg k2
             case measure => have := HK1.out; have := HK2.out; omega
             case rel => exact ⟨(false), (wrap64 (x12_2 + 1)), ez, ez, H', ⟨by have := HK1.out; have := HK2.out; omega⟩, ⟨mR HO_7.out⟩, ⟨mV HO_8.out⟩, ⟨mV HO_9.out⟩, ⟨mB HB.out⟩⟩
           ·rw [if_neg c18] at H
            have c18b0 : (((rd_T32 t506 x12_2).f0) == (rd t509 x10_1)) = false := beq_eq_false_iff_ne.mpr c18
            have c18b1 : (((rd_T32 t506 x12_2).f0) != (rd t509 x10_1)) = true := bne_iff_ne.mpr c18
            have H' := Aside0.mk H
            clear H
            have p516 : 0 ≤ (x12_2 : Int) := oda
            have q516 : x12_2 < (t506.length : Int) := oda
            obtain ⟨ad516, e516, hx516_0, hx516_1, hx516_2, hx516_3, hx516_4, hx516_5, hx516_6, hx516_7, hx516_8, hx516_9, hx516_10, hx516_11⟩ := at_T32 (Kd.R_reads' HO_7.out).2.2 x12_2 p516 q516
            cases e516
            replace p516 := eq_true p516
            replace q516 := eq_true q516
            have p517 : 0 ≤ (x10_1 : Int) := oda
            have q517 : x10_1 < (t509.length : Int) := oda
            obtain ⟨ad517, e517, hx517_0⟩ := Kd.at_int (Kd.V_reads' HO_8.out).2.2 x10_1 p517 q517
            cases e517
            replace p517 := eq_true p517
            replace q517 := eq_true q517
            go_wp2
            repeat (go_quiet (fail); try go_wp2)
            go_roundg k2
            case measure => have := HK1.out; have := HK2.out; omega
            case rel => exact ⟨(false), (wrap64 (x12_2 + 1)), ez, ez, H', ⟨by have := HK1.out; have := HK2.out; omega⟩, ⟨mR HO_7.out⟩, ⟨mV HO_8.out⟩, ⟨mV HO_9.out⟩, ⟨mB HB.out⟩⟩
          ·rw [if_neg c17] at H
           exact absurd H (by simp)
         ·rw [if_neg c16] at H
          exact absurd H (by simp)
        ·rw [if_neg c15] at H
         exact absurd H (by simp)
      ·rw [if_neg c13] at H
       have c13b0 : decide (x12_2 < (t506.length : Int)) = false := decide_eq_false c13
       clear c13
       by_cases c20 : x11_2 = true
       ·subst c20
        have H1 : (if x10_1 ≥ (t512.length : Int) then (some false) else (if 0 ≤ x10_1 then (if x10_1 < (t512.length : Int) then (if x10_1 < (t509.length : Int) then (if (rd t512 x10_1) = (rd t509 x10_1) then (prebendlaw19_JobEnds.l0 k2 a1 t506 t509 t512 (wrap64 (x10_1 + 1))) else (some false)) else (none)) else (none)) else (none))) = some true := by rw [if_pos rfl] at H; exact H
        clear H
        have H := H1
        clear H1
        by_cases c21 : x10_1 ≥ (t512.length : Int)
        ·rw [if_pos c21] at H
         exact absurd (Option.some.inj H) (by decide)
        ·rw [if_neg c21] at H
         have c21b0 : decide ((t512.length : Int) ≤ x10_1) = false := decide_eq_false c21
         clear c21
         by_cases c23 : 0 ≤ x10_1
         ·rw [if_pos c23] at H
          have c23b0 : decide (0 ≤ x10_1) = true := decide_eq_true c23
          clear c23
          by_cases c24 : x10_1 < (t512.length : Int)
          ·rw [if_pos c24] at H
           have c24b0 : decide (x10_1 < (t512.length : Int)) = true := decide_eq_true c24
           clear c24
           by_cases c25 : x10_1 < (t509.length : Int)
           ·rw [if_pos c25] at H
            have c25b0 : decide (x10_1 < (t509.length : Int)) = true := decide_eq_true c25
            clear c25
            by_cases c26 : (rd t512 x10_1) = (rd t509 x10_1)
            ·rw [if_pos c26] at H
             have c26b0 : ((rd t512 x10_1) == (rd t509 x10_1)) = true := beq_iff_eq.mpr c26
             have c26b1 : ((rd t512 x10_1) != (rd t509 x10_1)) = false := bne_eq_false_iff_eq.mpr c26
             clear c26
             have H' := Aside0.mk H
             clear H
             obtain ⟨Ao27, co27, eo27⟩ := Kd.V_slice HO_9.out
             subst eo27
             have p521 : 0 ≤ (x10_1 : Int) := oda
             have q521 : x10_1 < (t512.length : Int) := oda
             obtain ⟨ad521, e521, hx521_0⟩ := Kd.at_int (Kd.V_reads' HO_9.out).2.2 x10_1 p521 q521
             cases e521
             replace p521 := eq_true p521
             replace q521 := eq_true q521
             have p522 : 0 ≤ (x10_1 : Int) := oda
             have q522 : x10_1 < (t509.length : Int) := oda
             obtain ⟨ad522, e522, hx522_0⟩ := Kd.at_int (Kd.V_reads' HO_8.out).2.2 x10_1 p522 q522
             cases e522
             replace p522 := eq_true p522
             replace q522 := eq_true q522
             go_wp2
             repeat (go_quiet (fail); try go_wp2)
             go_roundg k2
             case measure => have := HK1.out; have := HK2.out; omega
             case rel => exact ⟨(wrap64 (x10_1 + 1)), ez, H', ⟨by have := HK1.out; have := HK2.out; omega⟩, ⟨mR HO_7.out⟩, ⟨mV HO_8.out⟩, ⟨mV HO_9.out⟩, ⟨mB HB.out⟩⟩
            ·rw [if_neg c26] at H
             exact absurd (Option.some.inj H) (by decide)
           ·rw [if_neg c25] at H
            exact absurd H (by simp)
          ·rw [if_neg c24] at H
           exact absurd H (by simp)
         ·rw [if_neg c23] at H
          exact absurd H (by simp)
       ·replace c20 := Bool.eq_false_iff.mpr c20
        subst c20
        have H1 : (some false) = some true := by rw [if_neg (show ¬ (false = true) by decide)] at H; exact H
        exact absurd (Option.some.inj H1) (by decide)
   ·rw [if_neg c11] at H
    have c11b0 : decide (x10_1 < (t509.length : Int)) = false := decide_eq_false c11
    clear c11
    replace H := Option.bind_eq_some_iff.mp H
    obtain ⟨t515, A290, H⟩ := H
    replace H : (if t515 = true then (some (decide ((t512.length : Int) ≥ (t509.length : Int)))) else (some false)) = some true := H
    have A29 := Aside0.mk A290
    clear A290
    by_cases c30 : t515 = true
    ·subst c30
     have H1 : (some (decide ((t512.length : Int) ≥ (t509.length : Int)))) = some true := by rw [if_pos rfl] at H; exact H
     clear H
     have H := H1
     clear H1
     have HD_ := Aside0.mk (of_decide_eq_true (Option.some.inj H))
     clear H
     obtain ⟨Ao31, co31, eo31⟩ := Kd.V_slice HO_8.out
     subst eo31
     go_wp2_with (first | (go_at_call 16; (with_reducible refine (prebendlaw19_awake.calls k1  _ A29.out).mono ?_); rintro e w32 ⟨rfl, hb⟩; have n0_ := Aside0.mk (Kd.R_below (mR HO_7.out) hb); have n1_ := Aside0.mk (Kd.V_below (mV HO_8.out) hb); have n2_ := Aside0.mk (Kd.V_below (mV HO_9.out) hb); have n3_ := Aside0.mk (below_step (mB HB.out) hb); clear HO_7; clear HO_8; clear HO_9; clear HB; have HO_7 := n0_; have HO_8 := n1_; have HO_9 := n2_; have HB := n3_; clear n0_ n1_ n2_ n3_; (try clear hb); (try clear hb2); (try clear hk); (try clear hi); obtain ⟨Ao33, co33, eo33⟩ := Kd.V_slice HO_9.out; subst eo33))
     repeat (go_quiet (first | (go_at_call 16; (with_reducible refine (prebendlaw19_awake.calls k1  _ A29.out).mono ?_); rintro e w32 ⟨rfl, hb⟩; have n0_ := Aside0.mk (Kd.R_below (mR HO_7.out) hb); have n1_ := Aside0.mk (Kd.V_below (mV HO_8.out) hb); have n2_ := Aside0.mk (Kd.V_below (mV HO_9.out) hb); have n3_ := Aside0.mk (below_step (mB HB.out) hb); clear HO_7; clear HO_8; clear HO_9; clear HB; have HO_7 := n0_; have HO_8 := n1_; have HO_9 := n2_; have HB := n3_; clear n0_ n1_ n2_ n3_; (try clear hb); (try clear hb2); (try clear hk); (try clear hi); obtain ⟨Ao33, co33, eo33⟩ := Kd.V_slice HO_9.out; subst eo33)); try go_wp2_with (first | (go_at_call 16; (with_reducible refine (prebendlaw19_awake.calls k1  _ A29.out).mono ?_); rintro e w32 ⟨rfl, hb⟩; have n0_ := Aside0.mk (Kd.R_below (mR HO_7.out) hb); have n1_ := Aside0.mk (Kd.V_below (mV HO_8.out) hb); have n2_ := Aside0.mk (Kd.V_below (mV HO_9.out) hb); have n3_ := Aside0.mk (below_step (mB HB.out) hb); clear HO_7; clear HO_8; clear HO_9; clear HB; have HO_7 := n0_; have HO_8 := n1_; have HO_9 := n2_; have HB := n3_; clear n0_ n1_ n2_ n3_; (try clear hb); (try clear hb2); (try clear hk); (try clear hi); obtain ⟨Ao33, co33, eo33⟩ := Kd.V_slice HO_9.out; subst eo33)))
     go_ret
     exact ⟨by first | rfl | (have q_ : (t509.length : Int) ≤ (t512.length : Int) := HD_.out; rw [decide_eq_true q_]) | (have q_ : (t509.length : Int) ≤ (t512.length : Int) := HD_.out; simp; omega) | (simp [errW_none, errW_some] <;> rfl) | (simp [*, errW_none, errW_some] <;> rfl), by repeat (first | (with_reducible first | exact HB.out | apply below_alloc | apply pw_below_drewN | apply below_drew1) | exact HB.out)⟩
    ·replace c30 := Bool.eq_false_iff.mpr c30
     subst c30
     have H1 : (some false) = some true := by rw [if_neg (show ¬ (false = true) by decide)] at H; exact H
     exact absurd (Option.some.inj H1) (by decide)/-- THE ONE PURE STATEMENT of prebendlaw19_JobEnds. -/
def prebendlaw19_JobEnds.Pure : Prop := ∀ (l0 : List (S32)) (a1 : Int) (a2 : Int), (l0.length ≤ maxLen ∧ ∀ y ∈ l0, g32 y) → (Lit.int .u16 a1).wf = true → (Lit.int .u16 a2).wf = true → ∃ k, prebendlaw19_JobEnds.f k l0 a1 a2 = some true
theorem prebendlaw19_JobEnds.walk (P : prebendlaw19_JobEnds.Pure) (A0 : Option Addr) (c0 : Nat) (l0 : List (S32)) (a1 : Int) (a2 : Int) (w : World) (hr0 : Kd.C k32 w A0 l0.length l0) (hc0 : l0.length ≤ c0) (h0_ : (l0.length ≤ maxLen ∧ ∀ y ∈ l0, g32 y)) (h1_ : (Lit.int .u16 a1).wf = true) (h2_ : (Lit.int .u16 a2).wf = true) :
  Calls Try.prog 7 #[.slice A0 l0.length c0, .int .u16 a1, .int .u16 a2] w fun e w' => e = .returned (.bool true) ∧ Below w.heap.size w w' := by
 obtain ⟨k, h⟩ := P l0 a1 a2 h0_ h1_ h2_
 refine (prebendlaw19_JobEnds.calls k A0 c0 l0 a1 a2 w hr0 hc0 h).mono ?_
 rintro e w' ⟨rfl, hd⟩
 exact ⟨rfl, hd⟩

end Go.Proofs.Ytkhfgflcanmefaa.PAll
end
section
set_option linter.unusedVariables false
set_option linter.unusedSimpArgs false
namespace Go.Proofs.Ytkhfgflcanmefaa.Pure
open Go Go.RowKit Go.Proofs.Ytkhfgflcanmefaa.PAll Go.Proofs.YtkhfgflcanmefaaW.PrintWords Go.Proofs.YtkhfgflcanmefaaW.PrintLast
section SortA
variable {α : Type}
structure TP (le : α → α → Bool) : Prop where
  total : ∀ a b, le a b = true ∨ le b a = true
  trans : ∀ {a b c}, le a b = true → le b c = true → le a c = true
def eqv (le : α → α → Bool) (a b : α) : Bool := le a b && le b a
def SEq (le : α → α → Bool) (xs ys : List α) : Prop := ∀ c, xs.filter (eqv le c) = ys.filter (eqv le c)
abbrev Srt (le : α → α → Bool) (xs : List α) : Prop := xs.Pairwise (fun a b => le a b = true)
variable {le : α → α → Bool}
theorem TP.refl (h : TP le) (a : α) : le a a = true := by rcases h.total a a with h | h <;> exact h
theorem TP.of_not (h : TP le) {a b : α} (hn : le a b = false) : le b a = true := by
  rcases h.total a b with h1 | h1
  · rw [hn] at h1; cases h1
  · exact h1
theorem SEq.refl (xs : List α) : SEq le xs xs := fun _ => rfl
theorem SEq.symm {xs ys : List α} (h : SEq le xs ys) : SEq le ys xs := fun c => (h c).symm
theorem SEq.trans {xs ys zs : List α} (h : SEq le xs ys) (h2 : SEq le ys zs) : SEq le xs zs := fun c => (h c).trans (h2 c)
theorem SEq.append {xs ys xs' ys' : List α} (h : SEq le xs ys) (h2 : SEq le xs' ys') : SEq le (xs ++ xs') (ys ++ ys') := fun c => by
  rw [List.filter_append, List.filter_append, h c, h2 c]
theorem SEq.cons (x : α) {xs ys : List α} (h : SEq le xs ys) : SEq le (x :: xs) (x :: ys) := fun c => by
  rw [List.filter_cons, List.filter_cons, h c]
theorem SEq.mem (ht : TP le) {xs ys : List α} (h : SEq le xs ys) {x : α} (hx : x ∈ xs) : x ∈ ys := by
  have h1 : x ∈ xs.filter (eqv le x) := List.mem_filter.2 ⟨hx, by simp [eqv, ht.refl]⟩
  rw [h x] at h1
  exact (List.mem_filter.1 h1).1
theorem SEq.swap (ht : TP le) {A B : List α} (h : ∀ a ∈ A, ∀ b ∈ B, le a b = false) : SEq le (A ++ B) (B ++ A) := fun c => by
  rw [List.filter_append, List.filter_append]
  by_cases hA : A.filter (eqv le c) = []
  · rw [hA]; simp
  · have hB : B.filter (eqv le c) = [] := by
      rw [List.filter_eq_nil_iff]
      intro b hb hcb
      obtain ⟨a, ha⟩ := List.exists_mem_of_ne_nil _ hA
      obtain ⟨ha, hca⟩ := List.mem_filter.1 ha
      simp only [eqv, Bool.and_eq_true] at hca hcb
      have := h a ha b hb
      rw [ht.trans hca.2 hcb.1] at this
      cases this
    rw [hB]; simp
theorem SEq.uniq (ht : TP le) : ∀ {xs ys : List α}, Srt le xs → Srt le ys → SEq le xs ys → xs = ys
  | [], [], _, _, _ => rfl
  | [], y :: ys, _, _, h => by have := SEq.mem ht (SEq.symm h) (List.mem_cons_self (a := y)); simp at this
  | x :: xs, [], _, _, h => by have := SEq.mem ht h (List.mem_cons_self (a := x)); simp at this
  | x :: xs, y :: ys, hx, hy, h => by
    have hx' := List.pairwise_cons.1 hx
    have hy' := List.pairwise_cons.1 hy
    have h1 : le y x = true := by
      rcases List.mem_cons.1 (SEq.mem ht h (List.mem_cons_self (a := x))) with e | e
      · rw [e]; exact ht.refl _
      · exact hy'.1 _ e
    have h2 : le x y = true := by
      rcases List.mem_cons.1 (SEq.mem ht (SEq.symm h) (List.mem_cons_self (a := y))) with e | e
      · rw [e]; exact ht.refl _
      · exact hx'.1 _ e
    have h3 := h x
    rw [List.filter_cons, List.filter_cons, if_pos (by simp [eqv, ht.refl]), if_pos (by simp [eqv, h1, h2])] at h3
    have h4 : x = y := by injection h3
    subst h4
    rw [SEq.uniq ht hx'.2 hy'.2 (fun c => by
      have h5 := h c
      rw [List.filter_cons, List.filter_cons] at h5
      split at h5
      · injection h5
      · exact h5)]
def ins (le : α → α → Bool) (x : α) : List α → List α
  | [] => [x]
  | y :: ys => if le x y = true then x :: y :: ys else y :: ins le x ys
def isort (le : α → α → Bool) : List α → List α
  | [] => []
  | x :: xs => ins le x (isort le xs)
theorem ins_perm (x : α) : ∀ ys : List α, (ins le x ys).Perm (x :: ys)
  | [] => .refl _
  | y :: ys => by
    unfold ins
    split
    · exact .refl _
    · exact ((ins_perm x ys).cons y).trans (.swap x y ys)
theorem isort_perm : ∀ xs : List α, (isort le xs).Perm xs
  | [] => .refl _
  | x :: xs => (ins_perm x _).trans ((isort_perm xs).cons x)
theorem ins_srt (ht : TP le) (x : α) : ∀ {ys : List α}, Srt le ys → Srt le (ins le x ys)
  | [], _ => by simp [ins]
  | y :: ys, h => by
    have h' := List.pairwise_cons.1 h
    unfold ins
    split
    · next hxy => exact List.pairwise_cons.2 ⟨fun z hz => by
        rcases List.mem_cons.1 hz with rfl | hz
        · exact hxy
        · exact ht.trans hxy (h'.1 z hz), h⟩
    · next hxy => exact List.pairwise_cons.2 ⟨fun z hz => by
        rcases List.mem_cons.1 ((ins_perm x ys).mem_iff.1 hz) with rfl | hz
        · exact ht.of_not (by simpa using hxy)
        · exact h'.1 z hz, ins_srt ht x h'.2⟩
theorem isort_srt (ht : TP le) : ∀ xs : List α, Srt le (isort le xs)
  | [] => .nil
  | x :: xs => ins_srt ht x (isort_srt ht xs)
theorem ins_seq (ht : TP le) (x : α) : ∀ ys : List α, SEq le (ins le x ys) (x :: ys)
  | [] => .refl _
  | y :: ys => by
    unfold ins
    split
    · exact .refl _
    · next hxy =>
      refine ((ins_seq ht x ys).cons y).trans ?_
      have := SEq.swap (le := le) ht (A := [x]) (B := [y]) (fun a ha b hb => by simp at ha hb; subst ha; subst hb; simpa using hxy)
      exact (SEq.append this (SEq.refl ys)).symm
theorem isort_seq (ht : TP le) : ∀ xs : List α, SEq le (isort le xs) xs
  | [] => .refl _
  | x :: xs => (ins_seq ht x _).trans ((isort_seq ht xs).cons x)
theorem isort_eq (ht : TP le) {xs ys : List α} (h : Srt le ys) (h2 : SEq le ys xs) : ys = isort le xs :=
  SEq.uniq ht h (isort_srt ht xs) (h2.trans (isort_seq ht xs).symm)
end SortA
section SortB
variable {α : Type} {d : α} {le : α → α → Bool} {cmp : α → α → Option Int}
theorem wr_ (n : Int) (h : -9223372036854775808 ≤ n) (h2 : n < 9223372036854775808) : wrap64 n = n := by unfold wrap64; omega
theorem half_ (x y : Int) (hx : 0 ≤ x) (hy : 0 ≤ y) (h : x + y < 9223372036854775808) : wrap64 ((IntKind.u64.wrap (wrap64 (x + y))) / 2) = (x + y) / 2 := by
  rw [wr_ (x + y) (by omega) h]
  have : IntKind.u64.wrap (x + y) = x + y := by
    show (x + y) % 18446744073709551616 = x + y
    omega
  rw [this, wr_ _ (by omega) (by omega)]
theorem gt_ (p q : List α) (x : α) (i : Int) (hi : i = p.length) : (p ++ x :: q).getD i.toNat d = x := by
  subst hi; simp [List.getD_eq_getElem?_getD]
theorem st_ (p q : List α) (x v : α) (i : Int) (hi : i = p.length) : (p ++ x :: q).set i.toNat v = p ++ v :: q := by
  subst hi; simp
theorem swp_ (p m q : List α) (x y : α) (i j : Int) (hi : i = p.length) (hj : j = p.length + 1 + m.length) : ((p ++ x :: (m ++ y :: q)).set i.toNat y).set j.toNat x = p ++ y :: (m ++ x :: q) := by
  rw [st_ p _ x y i hi]
  have := st_ (p ++ y :: m) q y x j (by simp; omega)
  simpa using this
theorem swp'_ (p m q : List α) (x y : α) (i j : Int) (hi : i = p.length) (hj : j = p.length + 1 + m.length) : ((p ++ x :: (m ++ y :: q)).set j.toNat x).set i.toNat y = p ++ y :: (m ++ x :: q) := by
  have := st_ (p ++ x :: m) q y x j (by simp; omega)
  rw [show p ++ x :: (m ++ y :: q) = (p ++ x :: m) ++ y :: q by simp, this, show (p ++ x :: m) ++ x :: q = p ++ x :: (m ++ x :: q) by simp, st_ p _ x y i hi]
theorem isort_congr (ht : TP le) {xs ys : List α} (h : SEq le xs ys) : isort le xs = isort le ys :=
  isort_eq ht (isort_srt ht xs) ((isort_seq ht xs).trans h)
theorem srt_isort (ht : TP le) {xs : List α} (h : Srt le xs) : isort le xs = xs := (isort_eq ht h (SEq.refl _)).symm
theorem isort_len (xs : List α) : (isort le xs).length = xs.length := (isort_perm xs).length_eq
theorem eq_of_len0 {xs : List α} (h : xs.length = 0) : xs = [] := List.length_eq_zero_iff.1 h

def Cmp (le : α → α → Bool) (cmp : α → α → Option Int) : Prop := ∀ x y, ∃ t, cmp x y = some t ∧ (t < 0 ↔ le y x = false)

structure InsF (d : α) (cmp : α → α → Option Int) (l0 : Nat → List α → Int → Int → Int → Option (List α)) (l1 : Nat → List α → Int → Int → Int → Int → Option (List α)) : Prop where
  e0 : ∀ k xs a b i, l0 (k + 1) xs a b i = if i < b then l1 k xs a b i i else some xs
  e1 : ∀ k xs a b i j, l1 (k + 1) xs a b i j = if j > a then (if 0 ≤ j then (if j < (xs.length : Int) then (if 0 ≤ (wrap64 (j - 1)) then (if (wrap64 (j - 1)) < (xs.length : Int) then
      ((cmp (xs.getD j.toNat d) (xs.getD (wrap64 (j - 1)).toNat d)).bind fun t => (if t < 0 then (l1 k ((xs.set j.toNat (xs.getD (wrap64 (j - 1)).toNat d)).set (wrap64 (j - 1)).toNat (xs.getD j.toNat d)) a b i (wrap64 (j - 1))) else (l0 k xs a b (wrap64 (i + 1))))) else none) else none) else none) else none) else (l0 k xs a b (wrap64 (i + 1)))
variable {l0 : Nat → List α → Int → Int → Int → Option (List α)} {l1 : Nat → List α → Int → Int → Int → Int → Option (List α)}
theorem ins_l1 (ht : TP le) (hcmp : Cmp le cmp) (hF : InsF d cmp l0 l1) {pre post r : List α} {a b i : Int} (ha : a = pre.length) (hi0 : 0 ≤ i) (hi1 : i < 1099511627776) (x : α) : ∀ (n : Nat) (S1 S2 : List α) (j : Int), S1.length = n → j = a + S1.length →
    (pre ++ S1 ++ x :: S2 ++ post).length < 1099511627776 → Srt le (S1 ++ S2) → (∀ z ∈ S2, le z x = false) →
    (∀ S', Srt le S' → SEq le S' (S1 ++ x :: S2) → Ev (fun k => l0 k (pre ++ S' ++ post) a b (i + 1)) r) →
    Ev (fun k => l1 k (pre ++ S1 ++ x :: S2 ++ post) a b i j) r
  | 0, S1, S2, j, hn, hj, hl, hs, hz, hk => by
    have := eq_of_len0 hn
    subst this
    refine Ev.step (fun k => by rw [hF.e1, if_neg (by simp at hj; omega), wr_ _ (by omega) (by omega)]) ?_
    have := hk (x :: S2) (List.pairwise_cons.2 ⟨fun z hz' => ht.of_not (hz z hz'), by simpa using hs⟩) (SEq.refl _)
    simpa using this
  | n + 1, S1, S2, j, hn, hj, hl, hs, hz, hk => by
    obtain ⟨S, y, rfl⟩ : ∃ S y, S1 = S ++ [y] := ⟨S1.dropLast, S1.getLast (by intro e; simp [e] at hn), (List.dropLast_concat_getLast _).symm⟩
    simp at hn hj
    obtain ⟨t, h1, h2⟩ := hcmp x y
    have hlen : ((pre ++ (S ++ [y]) ++ x :: S2 ++ post).length : Int) = pre.length + S.length + 1 + 1 + S2.length + post.length := by simp; omega
    have g1 : (pre ++ (S ++ [y]) ++ x :: S2 ++ post).getD j.toNat d = x := by
      have := gt_ (d := d) (pre ++ S ++ [y]) (S2 ++ post) x j (by simp; omega)
      simpa using this
    have g2 : (pre ++ (S ++ [y]) ++ x :: S2 ++ post).getD (j - 1).toNat d = y := by
      have := gt_ (d := d) (pre ++ S) (x :: S2 ++ post) y (j - 1) (by simp; omega)
      simpa using this
    have g3 : ((pre ++ (S ++ [y]) ++ x :: S2 ++ post).set j.toNat y).set (j - 1).toNat x = pre ++ S ++ x :: (y :: S2) ++ post := by
      have := swp'_ (pre ++ S) [] (S2 ++ post) y x (j - 1) j (by simp; omega) (by simp; omega)
      simpa using this
    refine Ev.step (f := fun k => if t < 0 then l1 k (pre ++ S ++ x :: (y :: S2) ++ post) a b i (j - 1) else l0 k (pre ++ (S ++ [y]) ++ x :: S2 ++ post) a b (i + 1)) (fun k => by
      rw [hF.e1, if_pos (by omega), if_pos (by omega), if_pos (by rw [hlen]; omega), wr_ (j - 1) (by omega) (by omega), wr_ (i + 1) (by omega) (by omega), if_pos (by omega), if_pos (by rw [hlen]; omega), g1, g2, h1, g3]
      rfl) ?_
    have hs' := List.pairwise_append.1 hs
    have hs1 := List.pairwise_append.1 hs'.1
    by_cases ht0 : t < 0
    · simp only [if_pos ht0]
      have hyx := h2.1 ht0
      refine ins_l1 ht hcmp hF ha hi0 hi1 x n S (y :: S2) (j - 1) hn (by omega) (by simp at hl ⊢; omega) (by simpa using hs) (fun z hz' => ?_) (fun S' h3 h4 => hk S' h3 (h4.trans ?_))
      · rcases List.mem_cons.1 hz' with rfl | hz'
        · exact hyx
        · exact hz z hz'
      · have h5 : SEq le ([y] ++ [x]) ([x] ++ [y]) := SEq.swap ht (fun p hp q hq => by simp at hp hq; subst hp; subst hq; exact hyx)
        have := SEq.append (SEq.append (SEq.refl S) h5.symm) (SEq.refl S2)
        simpa using this
    · simp only [if_neg ht0]
      have hyx : le y x = true := by
        cases h : le y x
        · exact absurd (h2.2 h) ht0
        · rfl
      have := hk (S ++ [y] ++ x :: S2) (by
        refine List.pairwise_append.2 ⟨hs'.1, List.pairwise_cons.2 ⟨fun z hz' => ht.of_not (hz z hz'), hs'.2.1⟩, fun p hp q hq => ?_⟩
        have hpy : le p y = true := by
          rcases List.mem_append.1 hp with hp | hp
          · exact hs1.2.2 p hp y (by simp)
          · simp at hp; subst hp; exact ht.refl _
        rcases List.mem_cons.1 hq with rfl | hq
        · exact ht.trans hpy hyx
        · exact hs'.2.2 p hp q hq) (SEq.refl _)
      simpa using this
theorem ins_l0 (ht : TP le) (hcmp : Cmp le cmp) (hF : InsF d cmp l0 l1) {pre post : List α} {a b : Int} (ha : a = pre.length) : ∀ (R S : List α) (i : Int), i = a + S.length → b = i + R.length →
    (pre ++ S ++ R ++ post).length < 1099511627776 → Srt le S → Ev (fun k => l0 k (pre ++ S ++ R ++ post) a b i) (pre ++ isort le (S ++ R) ++ post)
  | [], S, i, hi, hb, hl, hs => by
    refine Ev.step (f := fun _ => some (pre ++ isort le (S ++ []) ++ post)) (fun k => ?_) (Ev.now _)
    simp at hb
    rw [hF.e0, if_neg (by omega)]
    simp [srt_isort ht hs]
  | x :: R, S, i, hi, hb, hl, hs => by
    refine Ev.step (f := fun k => l1 k (pre ++ S ++ x :: R ++ post) a b i i) (fun k => by simp at hb; rw [hF.e0, if_pos (by omega)]) ?_
    have hl' := hl
    simp at hl'
    have h0 := ins_l1 ht hcmp hF (pre := pre) (post := R ++ post) (r := pre ++ isort le (S ++ x :: R) ++ post) (a := a) (b := b) (i := i) ha (by omega) (by omega) x S.length S [] i rfl hi (by simp; omega) (by simpa using hs) (by simp) (fun S' h1 h2 => ?_)
    · simpa using h0
    · have h3 := ins_l0 ht hcmp hF (pre := pre) (post := post) (a := a) (b := b) ha R S' (i + 1) (by
        have : S'.length = S.length + 1 := by
          have e := isort_eq ht h1 h2
          rw [e, isort_len]; simp
        omega) (by simp at hb; omega) (by
          have : S'.length = S.length + 1 := by
            have e := isort_eq ht h1 h2
            rw [e, isort_len]; simp
          simp; omega) h1
      have h4 : isort le (S' ++ R) = isort le (S ++ x :: R) := isort_congr ht (by simpa using SEq.append h2 (SEq.refl R))
      rw [h4] at h3
      simpa using h3
theorem ins_f (ht : TP le) (hcmp : Cmp le cmp) (hF : InsF d cmp l0 l1) {pre S post : List α} {a b : Int} (ha : a = pre.length) (hb : b = a + S.length) (hl : (pre ++ S ++ post).length < 1099511627776) :
    Ev (fun k => l0 k (pre ++ S ++ post) a b (wrap64 (a + 1))) (pre ++ isort le S ++ post) := by
  have hl' := hl
  simp at hl'
  rw [wr_ _ (by omega) (by omega)]
  cases S with
  | nil =>
    refine Ev.step (f := fun _ => some (pre ++ isort le [] ++ post)) (fun k => ?_) (Ev.now _)
    simp at hb
    rw [hF.e0, if_neg (by omega)]
    rfl
  | cons x R =>
    have := ins_l0 ht hcmp hF (pre := pre) (post := post) (a := a) (b := b) ha R [x] (a + 1) (by simp) (by simp at hb; omega) (by simp; simp at hl'; omega) (by simp)
    simpa using this

structure SwF (d : α) (l0 : Nat → List α → Int → Int → Int → Int → Option (List α)) : Prop where
  e0 : ∀ k xs a b n i, l0 (k + 1) xs a b n i = if i < n then (if 0 ≤ (wrap64 (b + i)) then (if (wrap64 (b + i)) < (xs.length : Int) then (if 0 ≤ (wrap64 (a + i)) then (if (wrap64 (a + i)) < (xs.length : Int) then
      (l0 k ((xs.set (wrap64 (a + i)).toNat (xs.getD (wrap64 (b + i)).toNat d)).set (wrap64 (b + i)).toNat (xs.getD (wrap64 (a + i)).toNat d)) a b n (wrap64 (i + 1))) else none) else none) else none) else none) else some xs
variable {s0 : Nat → List α → Int → Int → Int → Int → Option (List α)}
theorem sw_l0 (hF : SwF d s0) {a b n : Int} (ha0 : 0 ≤ a) (hb0 : 0 ≤ b) : ∀ (X Y pre mid post : List α) (i : Int), X.length = Y.length → 0 ≤ i → a + i = pre.length → b + i = pre.length + X.length + mid.length → n = i + X.length →
    (pre ++ X ++ mid ++ Y ++ post).length < 1099511627776 → Ev (fun k => s0 k (pre ++ X ++ mid ++ Y ++ post) a b n i) (pre ++ Y ++ mid ++ X ++ post)
  | [], Y, pre, mid, post, i, hxy, hi, ha, hb, hn, hl => by
    have : Y = [] := eq_of_len0 hxy.symm
    subst this
    refine Ev.step (f := fun _ => some (pre ++ [] ++ mid ++ [] ++ post)) (fun k => ?_) (Ev.now _)
    simp at hn
    rw [hF.e0, if_neg (by omega)]
  | x :: X, [], pre, mid, post, i, hxy, hi, ha, hb, hn, hl => by simp at hxy
  | x :: X, y :: Y, pre, mid, post, i, hxy, hi, ha, hb, hn, hl => by
    have hlen : ((pre ++ x :: X ++ mid ++ y :: Y ++ post).length : Int) = pre.length + X.length + 1 + mid.length + Y.length + 1 + post.length := by simp; omega
    simp at hxy hb hn
    have g1 : (pre ++ x :: X ++ mid ++ y :: Y ++ post).getD (a + i).toNat d = x := by
      have := gt_ (d := d) pre (X ++ mid ++ y :: Y ++ post) x (a + i) (by omega)
      simpa using this
    have g2 : (pre ++ x :: X ++ mid ++ y :: Y ++ post).getD (b + i).toNat d = y := by
      have := gt_ (d := d) (pre ++ x :: X ++ mid) (Y ++ post) y (b + i) (by simp; omega)
      simpa using this
    have g3 : ((pre ++ x :: X ++ mid ++ y :: Y ++ post).set (a + i).toNat y).set (b + i).toNat x = (pre ++ [y]) ++ X ++ (mid ++ [x]) ++ Y ++ post := by
      have := swp_ pre (X ++ mid) (Y ++ post) x y (a + i) (b + i) (by omega) (by simp; omega)
      simpa using this
    refine Ev.step (f := fun k => s0 k ((pre ++ [y]) ++ X ++ (mid ++ [x]) ++ Y ++ post) a b n (i + 1)) (fun k => by
      have hl2 := hlen
      rw [hF.e0, if_pos (by omega), wr_ (b + i) (by omega) (by omega), wr_ (a + i) (by omega) (by omega), wr_ (i + 1) (by omega) (by omega), if_pos (by omega), if_pos (by rw [hlen]; omega), if_pos (by omega), if_pos (by rw [hlen]; omega), g1, g2, g3]) ?_
    have := sw_l0 hF (a := a) (b := b) (n := n) ha0 hb0 X Y (pre ++ [y]) (mid ++ [x]) post (i + 1) hxy (by omega) (by simp; omega) (by simp; omega) (by omega) (by simp at hl ⊢; omega)
    simpa using this

structure RoF (s0 : Nat → List α → Int → Int → Int → Int → Option (List α)) (l0 : Nat → List α → Int → Int → Int → Option (List α)) : Prop where
  e0 : ∀ k xs m i j, l0 (k + 1) xs m i j = if i = j then ((s0 k xs (wrap64 (m - i)) m i 0).bind fun t => some t) else (if i > j then ((s0 k xs (wrap64 (m - i)) m j 0).bind fun t => (l0 k t m (wrap64 (i - j)) j)) else
      ((s0 k xs (wrap64 (m - i)) (wrap64 ((wrap64 (m + j)) - i)) i 0).bind fun t => (l0 k t m i (wrap64 (j - i)))))
variable {r0 : Nat → List α → Int → Int → Int → Option (List α)}
theorem ro_l0 (hS : SwF d s0) (hF : RoF s0 r0) {m : Int} : ∀ (n : Nat) (A B pre post : List α) (i j : Int), A.length + B.length ≤ n → 0 < A.length → 0 < B.length → m = pre.length + A.length → i = A.length → j = B.length →
    (pre ++ A ++ B ++ post).length < 1099511627776 → Ev (fun k => r0 k (pre ++ A ++ B ++ post) m i j) (pre ++ B ++ A ++ post)
  | 0, A, B, pre, post, i, j, hn, hA, hB, hm, hi, hj, hl => by omega
  | n + 1, A, B, pre, post, i, j, hn, hA, hB, hm, hi, hj, hl => by
    have hlen : ((pre ++ A ++ B ++ post).length : Int) = pre.length + A.length + B.length + post.length := by simp; omega
    rcases Nat.lt_trichotomy A.length B.length with h | h | h
    · -- B is longer: its last part comes to the front
      obtain ⟨B1, B2, rfl, h2⟩ : ∃ B1 B2, B = B1 ++ B2 ∧ B2.length = A.length := ⟨B.take (B.length - A.length), B.drop (B.length - A.length), (List.take_append_drop _ _).symm, by simp; omega⟩
      simp at hj hlen hn h hl
      refine Ev.step (f := fun k => (s0 k (pre ++ A ++ (B1 ++ B2) ++ post) (m - i) (m + j - i) i 0).bind fun t => r0 k t m i (j - i)) (fun k => by
        rw [hF.e0, if_neg (by omega), if_neg (by omega), wr_ (m - i) (by omega) (by omega), wr_ (m + j) (by omega) (by omega), wr_ (m + j - i) (by omega) (by omega), wr_ (j - i) (by omega) (by omega)]) ?_
      have hs := sw_l0 hS (a := m - i) (b := m + j - i) (n := i) (by omega) (by omega) A B2 pre B1 post 0 h2.symm (by omega) (by omega) (by omega) (by omega) (by simp; omega)
      have hs' : Ev (fun k => s0 k (pre ++ A ++ (B1 ++ B2) ++ post) (m - i) (m + j - i) i 0) (pre ++ B2 ++ B1 ++ (A ++ post)) := by simpa using hs
      refine Ev.bind hs' ?_
      have := ro_l0 hS hF (m := m) n B2 B1 pre (A ++ post) i (j - i) (by omega) (by omega) (by omega) (by omega) (by omega) (by omega) (by simp; omega)
      simpa using this
    · refine Ev.step (f := fun k => (s0 k (pre ++ A ++ B ++ post) (m - i) m i 0).bind fun t => some t) (fun k => by
        rw [hF.e0, if_pos (by omega), wr_ (m - i) (by omega) (by omega)]) ?_
      have hs := sw_l0 hS (a := m - i) (b := m) (n := i) (by omega) (by omega) A B pre [] post 0 h (by omega) (by omega) (by simp; omega) (by omega) (by simpa using hl)
      refine Ev.bind (a := pre ++ B ++ A ++ post) (by simpa using hs) (Ev.now _)
    · obtain ⟨A1, A2, rfl, h2⟩ : ∃ A1 A2, A = A1 ++ A2 ∧ A1.length = B.length := ⟨A.take B.length, A.drop B.length, (List.take_append_drop _ _).symm, by simp; omega⟩
      simp at hi hlen hn h hl hm
      refine Ev.step (f := fun k => (s0 k (pre ++ (A1 ++ A2) ++ B ++ post) (m - i) m j 0).bind fun t => r0 k t m (i - j) j) (fun k => by
        rw [hF.e0, if_neg (by omega), if_pos (by omega), wr_ (m - i) (by omega) (by omega), wr_ (i - j) (by omega) (by omega)]) ?_
      have hs := sw_l0 hS (a := m - i) (b := m) (n := j) (by omega) (by omega) A1 B pre A2 post 0 h2 (by omega) (by omega) (by omega) (by omega) (by simp; omega)
      have hs' : Ev (fun k => s0 k (pre ++ (A1 ++ A2) ++ B ++ post) (m - i) m j 0) ((pre ++ B) ++ A2 ++ A1 ++ post) := by simpa using hs
      refine Ev.bind hs' ?_
      have := ro_l0 hS hF (m := m) n A2 A1 (pre ++ B) post (i - j) j (by omega) (by omega) (by omega) (by simp; omega) (by omega) (by omega) (by simp; omega)
      simpa using this
end SortB
section SortC
variable {α : Type} {d : α} {le : α → α → Bool} {cmp : α → α → Option Int}
abbrev hlf (x y : Int) : Int := wrap64 ((IntKind.u64.wrap (wrap64 (x + y))) / 2)
structure SyF (d : α) (cmp : α → α → Option Int) (r0 : Nat → List α → Int → Int → Int → Option (List α)) (l0 : Nat → List α → Int → Int → Int → Option (List α)) (l1 : Nat → List α → Int → Int → Option (List α)) (l2 : Nat → List α → Int → Int → Int → Option (List α)) (l3 : Nat → List α → Int → Int → Option (List α))
    (j4 : Nat → List α → Int → Int → Int → Int → Int → Int → Int → Option (List α)) (l4 : Nat → List α → Int → Int → Int → Int → Int → Int → Int → Int → Option (List α)) (j6 : Nat → List α → Int → Int → Int → Int → Int → Int → Bool → Option (List α)) (j7 : Nat → List α → Int → Int → Int → Int → Int → Option (List α)) (j8 : Nat → List α → Int → Int → Int → Int → Int → Bool → Option (List α))
    (f : Nat → List α → Int → Int → Int → Option (List α)) : Prop where
  ef : ∀ k xs a m b, f (k + 1) xs a m b = if wrap64 (m - a) = 1 then l0 k xs a m b else (if wrap64 (b - m) = 1 then l2 k xs m a m else (if m > hlf a b then j4 k xs a m b (hlf a b) (wrap64 (hlf a b + m)) (wrap64 (wrap64 (hlf a b + m) - b)) (hlf a b) else j4 k xs a m b (hlf a b) (wrap64 (hlf a b + m)) a m))
  e0 : ∀ k xs a i j, l0 (k + 1) xs a i j = if i < j then (if 0 ≤ hlf i j then (if hlf i j < (xs.length : Int) then (if 0 ≤ a then (if a < (xs.length : Int) then ((cmp (xs.getD (hlf i j).toNat d) (xs.getD a.toNat d)).bind fun t => (if t < 0 then l0 k xs a (wrap64 (hlf i j + 1)) j else l0 k xs a i (hlf i j))) else none) else none) else none) else none) else l1 k xs i a
  e1 : ∀ k xs i q, l1 (k + 1) xs i q = if q < wrap64 (i - 1) then (if 0 ≤ wrap64 (q + 1) then (if wrap64 (q + 1) < (xs.length : Int) then (if 0 ≤ q then (if q < (xs.length : Int) then l1 k ((xs.set q.toNat (xs.getD (wrap64 (q + 1)).toNat d)).set (wrap64 (q + 1)).toNat (xs.getD q.toNat d)) i (wrap64 (q + 1)) else none) else none) else none) else none) else some xs
  e2 : ∀ k xs m i j, l2 (k + 1) xs m i j = if i < j then (if 0 ≤ m then (if m < (xs.length : Int) then (if 0 ≤ hlf i j then (if hlf i j < (xs.length : Int) then ((cmp (xs.getD m.toNat d) (xs.getD (hlf i j).toNat d)).bind fun t => (if t < 0 then l2 k xs m i (hlf i j) else l2 k xs m (wrap64 (hlf i j + 1)) j)) else none) else none) else none) else none) else l3 k xs i m
  e3 : ∀ k xs i q, l3 (k + 1) xs i q = if q > i then (if 0 ≤ wrap64 (q - 1) then (if wrap64 (q - 1) < (xs.length : Int) then (if 0 ≤ q then (if q < (xs.length : Int) then l3 k ((xs.set q.toNat (xs.getD (wrap64 (q - 1)).toNat d)).set (wrap64 (q - 1)).toNat (xs.getD q.toNat d)) i (wrap64 (q - 1)) else none) else none) else none) else none) else some xs
  ej4 : ∀ k xs a m b mid n st r, j4 (k + 1) xs a m b mid n st r = l4 k xs a m b mid n st r (wrap64 (n - 1))
  e4 : ∀ k xs a m b mid n st r p, l4 (k + 1) xs a m b mid n st r p = if st < r then (if 0 ≤ wrap64 (p - hlf st r) then (if wrap64 (p - hlf st r) < (xs.length : Int) then (if 0 ≤ hlf st r then (if hlf st r < (xs.length : Int) then ((cmp (xs.getD (wrap64 (p - hlf st r)).toNat d) (xs.getD (hlf st r).toNat d)).bind fun t => (if t < 0 then l4 k xs a m b mid n st (hlf st r) p else l4 k xs a m b mid n (wrap64 (hlf st r + 1)) r p)) else none) else none) else none) else none)
    else (if st < m then j6 k xs a m b mid st (wrap64 (n - st)) (decide (m < wrap64 (n - st))) else j6 k xs a m b mid st (wrap64 (n - st)) false)
  ej6 : ∀ k xs a m b mid st en c, j6 (k + 1) xs a m b mid st en c = if c = true then ((r0 k xs m (wrap64 (m - st)) (wrap64 (en - m))).bind fun t => j7 k t a b mid st en) else j7 k xs a b mid st en
  ej7 : ∀ k xs a b mid st en, j7 (k + 1) xs a b mid st en = if a < st then j8 k xs a b mid st en (decide (st < mid)) else j8 k xs a b mid st en false
  ej8 : ∀ k xs a b mid st en c, j8 (k + 1) xs a b mid st en c = if c = true then ((f k xs a st mid).bind fun t => (if mid < en then (if en < b then ((f k t mid en b).bind fun u => some u) else some t) else some t)) else (if mid < en then (if en < b then ((f k xs mid en b).bind fun u => some u) else some xs) else some xs)
variable {s0 : Nat → List α → Int → Int → Int → Int → Option (List α)} {r0 : Nat → List α → Int → Int → Int → Option (List α)} {l0 : Nat → List α → Int → Int → Int → Option (List α)} {l1 : Nat → List α → Int → Int → Option (List α)} {l2 : Nat → List α → Int → Int → Int → Option (List α)} {l3 : Nat → List α → Int → Int → Option (List α)}
    {j4 : Nat → List α → Int → Int → Int → Int → Int → Int → Int → Option (List α)} {l4 : Nat → List α → Int → Int → Int → Int → Int → Int → Int → Int → Option (List α)} {j6 : Nat → List α → Int → Int → Int → Int → Int → Int → Bool → Option (List α)} {j7 : Nat → List α → Int → Int → Int → Int → Int → Option (List α)} {j8 : Nat → List α → Int → Int → Int → Int → Int → Bool → Option (List α)}
    {f : Nat → List α → Int → Int → Int → Option (List α)}
theorem hlf_ (x y : Int) (hx : 0 ≤ x) (hy : 0 ≤ y) (h : x + y < 9223372036854775808) : hlf x y = (x + y) / 2 := half_ x y hx hy h
theorem sy_l1 (hF : SyF d cmp r0 l0 l1 l2 l3 j4 l4 j6 j7 j8 f) (x : α) {i : Int} : ∀ (R pre rest : List α) (q : Int), q = pre.length → i = q + R.length + 1 → (pre ++ x :: (R ++ rest)).length < 1099511627776 →
    Ev (fun k => l1 k (pre ++ x :: (R ++ rest)) i q) (pre ++ R ++ x :: rest)
  | [], pre, rest, q, hq, hi, hl => by
    refine Ev.step (f := fun _ => some (pre ++ [] ++ x :: rest)) (fun k => ?_) (Ev.now _)
    simp at hi hl
    rw [hF.e1, wr_ _ (by omega) (by omega), if_neg (by omega)]
    simp
  | y :: R, pre, rest, q, hq, hi, hl => by
    have hlen : ((pre ++ x :: (y :: R ++ rest)).length : Int) = pre.length + R.length + 2 + rest.length := by simp; omega
    simp at hi hl
    have g1 : (pre ++ x :: (y :: R ++ rest)).getD q.toNat d = x := gt_ (d := d) pre (y :: R ++ rest) x q hq
    have g2 : (pre ++ x :: (y :: R ++ rest)).getD (q + 1).toNat d = y := by
      have := gt_ (d := d) (pre ++ [x]) (R ++ rest) y (q + 1) (by simp; omega)
      simpa using this
    have g3 : ((pre ++ x :: (y :: R ++ rest)).set q.toNat y).set (q + 1).toNat x = (pre ++ [y]) ++ x :: (R ++ rest) := by
      have := swp_ pre [] (R ++ rest) x y q (q + 1) hq (by simp; omega)
      simpa using this
    refine Ev.step (f := fun k => l1 k ((pre ++ [y]) ++ x :: (R ++ rest)) i (q + 1)) (fun k => by
      rw [hF.e1, wr_ (i - 1) (by omega) (by omega), if_pos (by omega), wr_ (q + 1) (by omega) (by omega), if_pos (by omega), if_pos (by rw [hlen]; omega), if_pos (by omega), if_pos (by rw [hlen]; omega), g1, g2, g3]) ?_
    have := sy_l1 hF x (i := i) R (pre ++ [y]) rest (q + 1) (by simp; omega) (by omega) (by simp; omega)
    simpa using this
theorem sy_l3 (hF : SyF d cmp r0 l0 l1 l2 l3 j4 l4 j6 j7 j8 f) (x : α) {i : Int} {pre : List α} (hi : i = pre.length) : ∀ (n : Nat) (R rest : List α) (q : Int), R.length = n → q = i + R.length → (pre ++ R ++ x :: rest).length < 1099511627776 →
    Ev (fun k => l3 k (pre ++ R ++ x :: rest) i q) (pre ++ x :: (R ++ rest))
  | 0, R, rest, q, hn, hq, hl => by
    have := eq_of_len0 hn
    subst this
    refine Ev.step (f := fun _ => some (pre ++ x :: ([] ++ rest))) (fun k => ?_) (Ev.now _)
    simp at hq
    rw [hF.e3, if_neg (by omega)]
    simp
  | n + 1, R, rest, q, hn, hq, hl => by
    obtain ⟨S, y, rfl⟩ : ∃ S y, R = S ++ [y] := ⟨R.dropLast, R.getLast (by intro e; simp [e] at hn), (List.dropLast_concat_getLast _).symm⟩
    have hlen : ((pre ++ (S ++ [y]) ++ x :: rest).length : Int) = pre.length + S.length + 2 + rest.length := by simp; omega
    simp at hn hq hl
    have g1 : (pre ++ (S ++ [y]) ++ x :: rest).getD q.toNat d = x := gt_ (d := d) (pre ++ (S ++ [y])) rest x q (by simp; omega)
    have g2 : (pre ++ (S ++ [y]) ++ x :: rest).getD (q - 1).toNat d = y := by
      have := gt_ (d := d) (pre ++ S) (x :: rest) y (q - 1) (by simp; omega)
      simpa using this
    have g3 : ((pre ++ (S ++ [y]) ++ x :: rest).set q.toNat y).set (q - 1).toNat x = pre ++ S ++ x :: (y :: rest) := by
      have := swp'_ (pre ++ S) [] rest y x (q - 1) q (by simp; omega) (by simp; omega)
      simpa using this
    refine Ev.step (f := fun k => l3 k (pre ++ S ++ x :: (y :: rest)) i (q - 1)) (fun k => by
      rw [hF.e3, if_pos (by omega), wr_ (q - 1) (by omega) (by omega), if_pos (by omega), if_pos (by rw [hlen]; omega), if_pos (by omega), if_pos (by rw [hlen]; omega), g1, g2, g3]) ?_
    have := sy_l3 hF x hi n S (y :: rest) (q - 1) hn (by omega) (by simp; omega)
    simpa using this
theorem sy_l0 (ht : TP le) (hcmp : Cmp le cmp) (hF : SyF d cmp r0 l0 l1 l2 l3 j4 l4 j6 j7 j8 f) {pre B post r : List α} {x : α} {a : Int} (ha : a = pre.length) (hl : (pre ++ x :: (B ++ post)).length < 1099511627776) (hB : Srt le B)
    (hk : ∀ C1 C2, B = C1 ++ C2 → (∀ z ∈ C1, le x z = false) → (∀ z ∈ C2, le x z = true) → Ev (fun k => l1 k (pre ++ x :: (B ++ post)) (a + 1 + C1.length) a) r) :
    ∀ (n : Nat) (B1 M B2 : List α) (i j : Int), M.length ≤ n → B = B1 ++ M ++ B2 → (∀ z ∈ B1, le x z = false) → (∀ z ∈ B2, le x z = true) → i = a + 1 + B1.length → j = i + M.length → Ev (fun k => l0 k (pre ++ x :: (B ++ post)) a i j) r
  | n, B1, [], B2, i, j, hn, hb, h1, h2, hi, hj => by
    refine Ev.step (f := fun k => l1 k (pre ++ x :: (B ++ post)) i a) (fun k => ?_) ?_
    · simp at hj
      rw [hF.e0, if_neg (by omega)]
    · have := hk B1 B2 (by simpa using hb) h1 h2
      rw [hi]; exact this
  | 0, B1, m :: M, B2, i, j, hn, hb, h1, h2, hi, hj => by simp at hn
  | n + 1, B1, m :: M, B2, i, j, hn, hb, h1, h2, hi, hj => by
    have hlen : ((pre ++ x :: (B ++ post)).length : Int) = pre.length + B1.length + (M.length + 1) + B2.length + 1 + post.length := by rw [hb]; simp; omega
    simp only [List.length_cons] at hn hj
    have hh : hlf i j = (i + j) / 2 := hlf_ i j (by omega) (by omega) (by omega)
    obtain ⟨M1, z, M2, hM, hM1⟩ : ∃ M1 z M2, m :: M = M1 ++ z :: M2 ∧ (M1.length : Int) = (i + j) / 2 - i := by
      have hlt : ((i + j) / 2 - i).toNat < (m :: M).length := by simp; omega
      refine ⟨(m :: M).take ((i + j) / 2 - i).toNat, (m :: M)[((i + j) / 2 - i).toNat], (m :: M).drop (((i + j) / 2 - i).toNat + 1), ?_, ?_⟩
      · rw [← List.drop_eq_getElem_cons hlt, List.take_append_drop]
      · rw [List.length_take]; simp; omega
    have hMl : (M1.length : Int) + 1 + M2.length = M.length + 1 := by have := congrArg List.length hM; simp at this; omega
    obtain ⟨t, c1, c2⟩ := hcmp z x
    have g1 : (pre ++ x :: (B ++ post)).getD ((i + j) / 2).toNat d = z := by
      have := gt_ (d := d) (pre ++ x :: (B1 ++ M1)) (M2 ++ B2 ++ post) z ((i + j) / 2) (by simp; omega)
      rw [hb, hM]; simpa using this
    have g2 : (pre ++ x :: (B ++ post)).getD a.toNat d = x := gt_ (d := d) pre (B ++ post) x a ha
    refine Ev.step (f := fun k => if t < 0 then l0 k (pre ++ x :: (B ++ post)) a ((i + j) / 2 + 1) j else l0 k (pre ++ x :: (B ++ post)) a i ((i + j) / 2)) (fun k => by
      rw [hF.e0, if_pos (by omega), hh, if_pos (by omega), if_pos (by rw [hlen]; omega), if_pos (by omega), if_pos (by rw [hlen]; omega), g1, g2, c1, wr_ ((i + j) / 2 + 1) (by omega) (by omega)]
      rfl) ?_
    have hs : Srt le (B1 ++ (M1 ++ z :: M2) ++ B2) := by rw [← hM, ← hb]; exact hB
    have hs1 := List.pairwise_append.1 hs
    have hs2 := List.pairwise_append.1 (List.pairwise_append.1 hs1.1).2.1
    have hs3 := List.pairwise_cons.1 hs2.2.1
    by_cases ht0 : t < 0
    · simp only [if_pos ht0]
      have hxz := c2.1 ht0
      refine sy_l0 ht hcmp hF ha hl hB hk n (B1 ++ (M1 ++ [z])) M2 B2 _ _ (by omega) (by rw [hb, hM]; simp) (fun u hu => ?_) h2 (by simp; omega) (by omega)
      rcases List.mem_append.1 hu with hu | hu
      · exact h1 u hu
      · have huz : le u z = true := by
          rcases List.mem_append.1 hu with hu | hu
          · exact hs2.2.2 u hu z (by simp)
          · simp at hu; subst hu; exact ht.refl _
        cases hxu : le x u
        · rfl
        · rw [ht.trans hxu huz] at hxz; cases hxz
    · simp only [if_neg ht0]
      have hxz : le x z = true := by
        cases h : le x z
        · exact absurd (c2.2 h) ht0
        · rfl
      refine sy_l0 ht hcmp hF ha hl hB hk n B1 M1 (z :: M2 ++ B2) _ _ (by omega) (by rw [hb, hM]; simp) h1 (fun u hu => ?_) hi (by omega)
      rcases List.mem_append.1 hu with hu | hu
      · rcases List.mem_cons.1 hu with rfl | hu
        · exact hxz
        · exact ht.trans hxz (hs3.1 u hu)
      · exact h2 u hu
theorem sy_l2 (ht : TP le) (hcmp : Cmp le cmp) (hF : SyF d cmp r0 l0 l1 l2 l3 j4 l4 j6 j7 j8 f) {pre B post r : List α} {x : α} {a m : Int} (ha : a = pre.length) (hm : m = a + B.length) (hl : (pre ++ B ++ x :: post).length < 1099511627776) (hB : Srt le B)
    (hk : ∀ C1 C2, B = C1 ++ C2 → (∀ z ∈ C1, le z x = true) → (∀ z ∈ C2, le z x = false) → Ev (fun k => l3 k (pre ++ B ++ x :: post) (a + C1.length) m) r) :
    ∀ (n : Nat) (B1 M B2 : List α) (i j : Int), M.length ≤ n → B = B1 ++ M ++ B2 → (∀ z ∈ B1, le z x = true) → (∀ z ∈ B2, le z x = false) → i = a + B1.length → j = i + M.length → Ev (fun k => l2 k (pre ++ B ++ x :: post) m i j) r
  | n, B1, [], B2, i, j, hn, hb, h1, h2, hi, hj => by
    refine Ev.step (f := fun k => l3 k (pre ++ B ++ x :: post) i m) (fun k => ?_) ?_
    · simp at hj
      rw [hF.e2, if_neg (by omega)]
    · have := hk B1 B2 (by simpa using hb) h1 h2
      rw [hi]; exact this
  | 0, B1, m' :: M, B2, i, j, hn, hb, h1, h2, hi, hj => by simp at hn
  | n + 1, B1, m' :: M, B2, i, j, hn, hb, h1, h2, hi, hj => by
    have hlen : ((pre ++ B ++ x :: post).length : Int) = pre.length + B1.length + (M.length + 1) + B2.length + 1 + post.length := by rw [hb]; simp; omega
    have hBl : (B.length : Int) = B1.length + (M.length + 1) + B2.length := by rw [hb]; simp; omega
    simp only [List.length_cons] at hn hj
    have hh : hlf i j = (i + j) / 2 := hlf_ i j (by omega) (by omega) (by omega)
    obtain ⟨M1, z, M2, hM, hM1⟩ : ∃ M1 z M2, m' :: M = M1 ++ z :: M2 ∧ (M1.length : Int) = (i + j) / 2 - i := by
      have hlt : ((i + j) / 2 - i).toNat < (m' :: M).length := by simp; omega
      refine ⟨(m' :: M).take ((i + j) / 2 - i).toNat, (m' :: M)[((i + j) / 2 - i).toNat], (m' :: M).drop (((i + j) / 2 - i).toNat + 1), ?_, ?_⟩
      · rw [← List.drop_eq_getElem_cons hlt, List.take_append_drop]
      · rw [List.length_take]; simp; omega
    have hMl : (M1.length : Int) + 1 + M2.length = M.length + 1 := by have := congrArg List.length hM; simp at this; omega
    obtain ⟨t, c1, c2⟩ := hcmp x z
    have g1 : (pre ++ B ++ x :: post).getD ((i + j) / 2).toNat d = z := by
      have := gt_ (d := d) (pre ++ (B1 ++ M1)) (M2 ++ B2 ++ x :: post) z ((i + j) / 2) (by simp; omega)
      rw [hb, hM]; simpa using this
    have g2 : (pre ++ B ++ x :: post).getD m.toNat d = x := gt_ (d := d) (pre ++ B) post x m (by simp; omega)
    refine Ev.step (f := fun k => if t < 0 then l2 k (pre ++ B ++ x :: post) m i ((i + j) / 2) else l2 k (pre ++ B ++ x :: post) m ((i + j) / 2 + 1) j) (fun k => by
      rw [hF.e2, if_pos (by omega), hh, if_pos (by omega), if_pos (by rw [hlen]; omega), if_pos (by omega), if_pos (by rw [hlen]; omega), g1, g2, c1, wr_ ((i + j) / 2 + 1) (by omega) (by omega)]
      rfl) ?_
    have hs : Srt le (B1 ++ (M1 ++ z :: M2) ++ B2) := by rw [← hM, ← hb]; exact hB
    have hs1 := List.pairwise_append.1 hs
    have hs2 := List.pairwise_append.1 (List.pairwise_append.1 hs1.1).2.1
    have hs3 := List.pairwise_cons.1 hs2.2.1
    by_cases ht0 : t < 0
    · simp only [if_pos ht0]
      have hxz := c2.1 ht0
      refine sy_l2 ht hcmp hF ha hm hl hB hk n B1 M1 (z :: M2 ++ B2) _ _ (by omega) (by rw [hb, hM]; simp) h1 (fun u hu => ?_) hi (by omega)
      rcases List.mem_append.1 hu with hu | hu
      · rcases List.mem_cons.1 hu with rfl | hu
        · exact hxz
        · cases hux : le u x
          · rfl
          · rw [ht.trans (hs3.1 u hu) hux] at hxz; cases hxz
      · exact h2 u hu
    · simp only [if_neg ht0]
      have hxz : le z x = true := by
        cases h : le z x
        · exact absurd (c2.2 h) ht0
        · rfl
      refine sy_l2 ht hcmp hF ha hm hl hB hk n (B1 ++ (M1 ++ [z])) M2 B2 _ _ (by omega) (by rw [hb, hM]; simp) (fun u hu => ?_) h2 (by simp; omega) (by omega)
      rcases List.mem_append.1 hu with hu | hu
      · exact h1 u hu
      · rcases List.mem_append.1 hu with hu | hu
        · exact ht.trans (hs2.2.2 u hu z (by simp)) hxz
        · simp at hu; subst hu; exact hxz
end SortC
section SortD
variable {α : Type} {d : α} {le : α → α → Bool} {cmp : α → α → Option Int}
variable {s0 : Nat → List α → Int → Int → Int → Int → Option (List α)} {r0 : Nat → List α → Int → Int → Int → Option (List α)} {l0 : Nat → List α → Int → Int → Int → Option (List α)} {l1 : Nat → List α → Int → Int → Option (List α)} {l2 : Nat → List α → Int → Int → Int → Option (List α)} {l3 : Nat → List α → Int → Int → Option (List α)}
    {j4 : Nat → List α → Int → Int → Int → Int → Int → Int → Int → Option (List α)} {l4 : Nat → List α → Int → Int → Int → Int → Int → Int → Int → Int → Option (List α)} {j6 : Nat → List α → Int → Int → Int → Int → Int → Int → Bool → Option (List α)} {j7 : Nat → List α → Int → Int → Int → Int → Int → Option (List α)} {j8 : Nat → List α → Int → Int → Int → Int → Int → Bool → Option (List α)}
    {f : Nat → List α → Int → Int → Int → Option (List α)}
theorem sy_l4 (hcmp : Cmp le cmp) (hF : SyF d cmp r0 l0 l1 l2 l3 j4 l4 j6 j7 j8 f) {xs r : List α} {a m b mid nn p s1 s2 : Int} (hl : xs.length < 1099511627776) (h0 : 0 ≤ s1) (h2 : s2 ≤ xs.length)
    (hp : ∀ c, s1 ≤ c → c < s2 → 0 ≤ p - c ∧ p - c < xs.length)
    (hmono : ∀ c e, s1 ≤ c → c ≤ e → e < s2 → le (xs.getD c.toNat d) (xs.getD (p - c).toNat d) = false → le (xs.getD e.toNat d) (xs.getD (p - e).toNat d) = false)
    (hk : ∀ st, s1 ≤ st → st ≤ s2 → (s1 < st → le (xs.getD (st - 1).toNat d) (xs.getD (p - (st - 1)).toNat d) = true) → (st < s2 → le (xs.getD st.toNat d) (xs.getD (p - st).toNat d) = false) →
      Ev (fun k => if st < m then j6 k xs a m b mid st (wrap64 (nn - st)) (decide (m < wrap64 (nn - st))) else j6 k xs a m b mid st (wrap64 (nn - st)) false) r) :
    ∀ (n : Nat) (st e : Int), s1 ≤ st → st ≤ e → e ≤ s2 → (e - st).toNat ≤ n → (s1 < st → le (xs.getD (st - 1).toNat d) (xs.getD (p - (st - 1)).toNat d) = true) → (e < s2 → le (xs.getD e.toNat d) (xs.getD (p - e).toNat d) = false) →
    Ev (fun k => l4 k xs a m b mid nn st e p) r := by
  intro n
  induction n with
  | zero =>
    intro st e q1 q2 q3 q4 q5 q6
    have : st = e := by omega
    subst this
    exact Ev.step (fun k => by rw [hF.e4, if_neg (by omega)]) (hk st q1 q3 q5 q6)
  | succ n ih =>
    intro st e q1 q2 q3 q4 q5 q6
    by_cases hse : st = e
    · subst hse
      exact Ev.step (fun k => by rw [hF.e4, if_neg (by omega)]) (hk st q1 q3 q5 q6)
    have hh : hlf st e = (st + e) / 2 := hlf_ st e (by omega) (by omega) (by omega)
    obtain ⟨c, hc⟩ : ∃ c, (st + e) / 2 = c := ⟨_, rfl⟩
    have hc1 : st ≤ c := by omega
    have hc2 : c < e := by omega
    have hpc := hp c (by omega) (by omega)
    obtain ⟨t, c1, c2⟩ := hcmp (xs.getD (p - c).toNat d) (xs.getD c.toNat d)
    refine Ev.step (f := fun k => if t < 0 then l4 k xs a m b mid nn st c p else l4 k xs a m b mid nn (c + 1) e p) (fun k => by
      rw [hF.e4, if_pos (by omega), hh, hc, wr_ (p - c) (by omega) (by omega), if_pos (by omega), if_pos (by omega), if_pos (by omega), if_pos (by omega), c1, wr_ (c + 1) (by omega) (by omega)]
      rfl) ?_
    by_cases ht0 : t < 0
    · simp only [if_pos ht0]
      exact ih st c q1 hc1 (by omega) (by omega) q5 (fun _ => c2.1 ht0)
    · simp only [if_neg ht0]
      refine ih (c + 1) e (by omega) (by omega) q3 (by omega) (fun _ => ?_) q6
      rw [show c + 1 - 1 = c by omega]
      cases h : le (xs.getD c.toNat d) (xs.getD (p - c).toNat d)
      · exact absurd (c2.2 h) ht0
      · rfl
theorem gA_ (pre A rest : List α) (c : Int) (i : Nat) (h : i < A.length) (hc : c = pre.length + i) : (pre ++ A ++ rest).getD c.toNat d = A[i] := by
  subst hc
  rw [List.getD_eq_getElem?_getD, show ((pre.length : Int) + (i : Int)).toNat = pre.length + i by omega, List.append_assoc, List.getElem?_append_right (by omega), show pre.length + i - pre.length = i by omega, List.getElem?_append_left h, List.getElem?_eq_getElem h]
  rfl
theorem srt_get {A : List α} (h : Srt le A) (ht : TP le) {i j : Nat} (hij : i ≤ j) (hj : j < A.length) : le (A[i]'(by omega)) A[j] = true := by
  rcases Nat.lt_or_eq_of_le hij with h1 | rfl
  · exact (List.pairwise_iff_getElem.1 h) i j (by omega) hj h1
  · exact ht.refl _
theorem sy_f (ht : TP le) (hcmp : Cmp le cmp) (hS : SwF d s0) (hR : RoF s0 r0) (hF : SyF d cmp r0 l0 l1 l2 l3 j4 l4 j6 j7 j8 f) : ∀ (n : Nat) (A B pre post : List α) (a m b : Int), A.length + B.length ≤ n → 0 < A.length → 0 < B.length → a = pre.length → m = a + A.length → b = m + B.length →
    (pre ++ A ++ B ++ post).length < 1099511627776 → Srt le A → Srt le B → Ev (fun k => f k (pre ++ A ++ B ++ post) a m b) (pre ++ isort le (A ++ B) ++ post) := by
  intro n
  induction n with
  | zero => intro A B pre post a m b hn hA hB; omega
  | succ n ih =>
  intro A B pre post a m b hn hA hB ha hm hb hl sA sB
  have hlen : ((pre ++ A ++ B ++ post).length : Int) = pre.length + A.length + B.length + post.length := by simp; omega
  have hl' := hl
  simp only [List.length_append] at hl'
  by_cases hA1 : A.length = 1
  · -- one element, then the second part
    obtain ⟨x, rfl⟩ : ∃ x, A = [x] := by
      match A, hA1 with
      | [x], _ => exact ⟨x, rfl⟩
    have e1 : pre ++ [x] ++ B ++ post = pre ++ x :: (B ++ post) := by simp
    rw [e1] at hl ⊢
    simp at hm
    refine Ev.step (f := fun k => l0 k (pre ++ x :: (B ++ post)) a m b) (fun k => by
      rw [hF.ef, wr_ (m - a) (by omega) (by omega), if_pos (by omega)]) ?_
    refine sy_l0 ht hcmp hF ha hl sB (fun C1 C2 hC h1 h2 => ?_) B.length [] B [] m b (by omega) (by simp) (by simp) (by simp) (by simp; omega) (by omega)
    subst hC
    have h3 := sy_l1 hF x (i := a + 1 + C1.length) C1 pre (C2 ++ post) a ha (by omega) (by simp at hl ⊢; omega)
    have h4 : C1 ++ x :: C2 = isort le ([x] ++ (C1 ++ C2)) := by
      have hs := List.pairwise_append.1 sB
      refine isort_eq ht (List.pairwise_append.2 ⟨hs.1, List.pairwise_cons.2 ⟨h2, hs.2.1⟩, fun p hp q hq => ?_⟩) ?_
      · rcases List.mem_cons.1 hq with rfl | hq
        · exact ht.of_not (h1 p hp)
        · exact hs.2.2 p hp q hq
      · have := SEq.append (SEq.swap ht (A := [x]) (B := C1) (fun p hp q hq => by simp at hp; subst hp; exact h1 q hq)).symm (SEq.refl C2)
        simpa using this
    rw [← h4]
    simpa using h3
  by_cases hB1 : B.length = 1
  · obtain ⟨x, rfl⟩ : ∃ x, B = [x] := by
      match B, hB1 with
      | [x], _ => exact ⟨x, rfl⟩
    have e1 : pre ++ A ++ [x] ++ post = pre ++ A ++ x :: post := by simp
    rw [e1] at hl ⊢
    simp at hb
    refine Ev.step (f := fun k => l2 k (pre ++ A ++ x :: post) m a m) (fun k => by
      rw [hF.ef, wr_ (m - a) (by omega) (by omega), if_neg (by omega), wr_ (b - m) (by omega) (by omega), if_pos (by omega)]) ?_
    refine sy_l2 ht hcmp hF ha hm hl sA (fun C1 C2 hC h1 h2 => ?_) A.length [] A [] a m (by omega) (by simp) (by simp) (by simp) (by simp) (by omega)
    subst hC
    have h3 := sy_l3 hF x (i := a + C1.length) (pre := pre ++ C1) (by simp; omega) C2.length C2 post m rfl (by simp at hm; omega) (by simp at hl ⊢; omega)
    have h4 : C1 ++ x :: C2 = isort le ((C1 ++ C2) ++ [x]) := by
      have hs := List.pairwise_append.1 sA
      refine isort_eq ht (List.pairwise_append.2 ⟨hs.1, List.pairwise_cons.2 ⟨fun z hz => ht.of_not (h2 z hz), hs.2.1⟩, fun p hp q hq => ?_⟩) ?_
      · rcases List.mem_cons.1 hq with rfl | hq
        · exact h1 p hp
        · exact hs.2.2 p hp q hq
      · have := SEq.append (SEq.refl C1) (SEq.swap ht (A := C2) (B := [x]) (fun p hp q hq => by simp at hq; subst hq; exact h2 p hp)).symm
        simpa using this
    rw [← h4]
    simpa using h3
  -- the general case
  have hh : hlf a b = (a + b) / 2 := hlf_ a b (by omega) (by omega) (by omega)
  obtain ⟨mid, hmid⟩ : ∃ mid, (a + b) / 2 = mid := ⟨_, rfl⟩
  have hmid1 : a < mid := by omega
  have hmid2 : mid < b := by omega
  obtain ⟨xs, hxs⟩ : ∃ xs, xs = pre ++ A ++ B ++ post := ⟨_, rfl⟩
  have hxl : (xs.length : Int) = pre.length + A.length + B.length + post.length := by rw [hxs]; exact hlen
  have getA : ∀ (c : Int) (i : Nat) (h : i < A.length), c = a + i → xs.getD c.toNat d = A[i] := fun c i h hc => by
    rw [hxs, List.append_assoc (pre ++ A)]; exact gA_ pre A (B ++ post) c i h (by omega)
  have getB : ∀ (c : Int) (i : Nat) (h : i < B.length), c = m + i → xs.getD c.toNat d = B[i] := fun c i h hc => by
    rw [hxs]; exact gA_ (pre ++ A) B post c i h (by simp; omega)
  have leA : ∀ c e : Int, a ≤ c → c ≤ e → e < m → le (xs.getD c.toNat d) (xs.getD e.toNat d) = true := fun c e h1 h2 h3 => by
    rw [getA c (c - a).toNat (by omega) (by omega), getA e (e - a).toNat (by omega) (by omega)]
    exact srt_get sA ht (by omega) (by omega)
  have leB : ∀ c e : Int, m ≤ c → c ≤ e → e < b → le (xs.getD c.toNat d) (xs.getD e.toNat d) = true := fun c e h1 h2 h3 => by
    rw [getB c (c - m).toNat (by omega) (by omega), getB e (e - m).toNat (by omega) (by omega)]
    exact srt_get sB ht (by omega) (by omega)
  -- what follows the search
  have follow : ∀ st : Int, a ≤ st → st ≤ m → m ≤ mid + m - st → mid + m - st ≤ b → (a < st → mid + m - st < b → le (xs.getD (st - 1).toNat d) (xs.getD (mid + m - st).toNat d) = true) → (st < m → m < mid + m - st → le (xs.getD st.toNat d) (xs.getD (mid + m - 1 - st).toNat d) = false) →
      Ev (fun k => if st < m then j6 k xs a m b mid st (wrap64 (mid + m - st)) (decide (m < wrap64 (mid + m - st))) else j6 k xs a m b mid st (wrap64 (mid + m - st)) false) (pre ++ isort le (A ++ B) ++ post) := by
    intro st q1 q2 q3 q4 q5 q6
    rw [wr_ (mid + m - st) (by omega) (by omega)]
    obtain ⟨en, hen⟩ : ∃ en, mid + m - st = en := ⟨_, rfl⟩
    rw [hen] at q3 q4 q5 q6 ⊢
    rw [show mid + m - 1 - st = en - 1 by omega] at q6
    obtain ⟨A1, A2, hA12, hA1l⟩ : ∃ A1 A2, A = A1 ++ A2 ∧ (A1.length : Int) = st - a := ⟨A.take (st - a).toNat, A.drop (st - a).toNat, (List.take_append_drop _ _).symm, by rw [List.length_take]; omega⟩
    obtain ⟨B1, B2, hB12, hB1l⟩ : ∃ B1 B2, B = B1 ++ B2 ∧ (B1.length : Int) = en - m := ⟨B.take (en - m).toNat, B.drop (en - m).toNat, (List.take_append_drop _ _).symm, by rw [List.length_take]; omega⟩
    have lA : (A.length : Int) = A1.length + A2.length := by rw [hA12]; simp
    have lB : (B.length : Int) = B1.length + B2.length := by rw [hB12]; simp
    have sA' := List.pairwise_append.1 (hA12 ▸ sA)
    have sB' := List.pairwise_append.1 (hB12 ▸ sB)
    -- each of A1 is at most each of B2
    have hAB : ∀ p ∈ A1, ∀ q ∈ B2, le p q = true := by
      intro p hp q hq
      obtain ⟨i, hi, rfl⟩ := List.getElem_of_mem hp
      obtain ⟨j, hj, rfl⟩ := List.getElem_of_mem hq
      have h1 := q5 (by omega) (by omega)
      have h2 := leA (a + i) (st - 1) (by omega) (by omega) (by omega)
      have h3 := leB en (en + j) (by omega) (by omega) (by omega)
      rw [getA (a + i) i (by omega) rfl] at h2
      rw [getB (en + j) (B1.length + j) (by omega) (by omega)] at h3
      have e1 : A[i]'(by omega) = A1[i] := by simp only [hA12]; exact List.getElem_append_left hi
      have e2 : B[B1.length + j]'(by omega) = B2[j] := by simp only [hB12]; rw [List.getElem_append_right (by omega)]; simp
      rw [e1] at h2; rw [e2] at h3
      exact ht.trans (ht.trans h2 h1) h3
    -- each of B1 is below each of A2
    have hBA : ∀ p ∈ A2, ∀ q ∈ B1, le p q = false := by
      intro p hp q hq
      obtain ⟨i, hi, rfl⟩ := List.getElem_of_mem hp
      obtain ⟨j, hj, rfl⟩ := List.getElem_of_mem hq
      have h1 := q6 (by omega) (by omega)
      have h2 := leA st (st + i) (by omega) (by omega) (by omega)
      have h3 := leB (m + j) (en - 1) (by omega) (by omega) (by omega)
      rw [getA (st + i) (A1.length + i) (by omega) (by omega)] at h2
      rw [getB (m + j) j (by omega) rfl] at h3
      have e1 : A[A1.length + i]'(by omega) = A2[i] := by simp only [hA12]; rw [List.getElem_append_right (by omega)]; simp
      have e2 : B[j]'(by omega) = B1[j] := by simp only [hB12]; exact List.getElem_append_left hj
      rw [e1] at h2; rw [e2] at h3
      cases h : le A2[i] B1[j]
      · rfl
      · rw [ht.trans (ht.trans h2 h) h3] at h1; cases h1
    -- the two halves, each put in order
    have hfin : isort le (A1 ++ B1) ++ isort le (A2 ++ B2) = isort le (A ++ B) := by
      refine isort_eq ht (List.pairwise_append.2 ⟨isort_srt ht _, isort_srt ht _, fun p hp q hq => ?_⟩) ?_
      · have hp := (isort_perm (le := le) _).mem_iff.1 hp
        have hq := (isort_perm (le := le) _).mem_iff.1 hq
        rcases List.mem_append.1 hp with hp | hp <;> rcases List.mem_append.1 hq with hq | hq
        · exact sA'.2.2 p hp q hq
        · exact hAB p hp q hq
        · exact ht.of_not (hBA q hq p hp)
        · exact sB'.2.2 p hp q hq
      · have h1 := SEq.append (isort_seq ht (A1 ++ B1)) (isort_seq ht (A2 ++ B2))
        have h2 := SEq.append (SEq.append (SEq.refl A1) (SEq.swap ht hBA).symm) (SEq.refl B2)
        refine h1.trans ?_
        rw [hA12, hB12]
        simpa using h2
    -- the last two calls
    have last : ∀ ys, ys = pre ++ A1 ++ B1 ++ A2 ++ B2 ++ post → Ev (fun k => j7 k ys a b mid st en) (pre ++ isort le (A ++ B) ++ post) := by
      intro ys hys
      have hyl : (ys.length : Int) = xs.length := by rw [hys, hxl]; simp; omega
      -- the second call
      have sec : ∀ zs, zs = pre ++ isort le (A1 ++ B1) ++ A2 ++ B2 ++ post → Ev (fun k => if mid < en then (if en < b then ((f k zs mid en b).bind fun u => some u) else some zs) else some zs) (pre ++ isort le (A ++ B) ++ post) := by
        intro zs hzs
        have hil : ((isort le (A1 ++ B1)).length : Int) = A1.length + B1.length := by rw [isort_len]; simp
        by_cases h1 : mid < en
        · by_cases h2 : en < b
          · simp only [if_pos h1, if_pos h2]
            have h3 := ih A2 B2 (pre ++ isort le (A1 ++ B1)) post mid en b (by omega) (by omega) (by omega) (by simp; omega) (by omega) (by omega) (by simp; omega) sA'.2.1 sB'.2.1
            have h4 : zs = (pre ++ isort le (A1 ++ B1)) ++ A2 ++ B2 ++ post := by rw [hzs]
            refine Ev.bind (a := pre ++ isort le (A ++ B) ++ post) ?_ (Ev.now _)
            rw [h4, ← hfin]
            simpa using h3
          · have hB2 : B2 = [] := eq_of_len0 (by omega)
            simp only [if_pos h1, if_neg h2]
            have h5 : zs = pre ++ isort le (A ++ B) ++ post := by
              rw [hzs, ← hfin, hB2, srt_isort ht (xs := A2 ++ []) (by simpa using sA'.2.1)]; simp
            rw [h5]; exact Ev.now _
        · have hA2 : A2 = [] := eq_of_len0 (by omega)
          simp only [if_neg h1]
          have h5 : zs = pre ++ isort le (A ++ B) ++ post := by
            rw [hzs, ← hfin, hA2, srt_isort ht (xs := [] ++ B2) (by simpa using sB'.2.1)]; simp
          rw [h5]; exact Ev.now _
      refine Ev.step (f := fun k => j8 k ys a b mid st en (decide (a < st ∧ st < mid))) (fun k => by
        rw [hF.ej7]
        by_cases h1 : a < st
        · rw [if_pos h1]; simp [h1]
        · rw [if_neg h1]; simp [h1]) ?_
      by_cases h1 : a < st ∧ st < mid
      · rw [decide_eq_true h1]
        refine Ev.step (fun k => by rw [hF.ej8, if_pos rfl]) ?_
        have h3 := ih A1 B1 pre (A2 ++ B2 ++ post) a st mid (by omega) (by omega) (by omega) ha (by omega) (by omega) (by simp; omega) sA'.1 sB'.1
        refine Ev.bind (a := pre ++ isort le (A1 ++ B1) ++ A2 ++ B2 ++ post) ?_ (sec _ rfl)
        rw [hys]
        simpa using h3
      · rw [decide_eq_false h1]
        refine Ev.step (fun k => by rw [hF.ej8, if_neg (by simp)]) (sec _ ?_)
        have : isort le (A1 ++ B1) = A1 ++ B1 := by
          refine srt_isort ht ?_
          by_cases h2 : a < st
          · have hB1 : B1 = [] := eq_of_len0 (by omega)
            rw [hB1]; simpa using sA'.1
          · have hA1 : A1 = [] := eq_of_len0 (by omega)
            rw [hA1]; simpa using sB'.1
        rw [hys, this]
        simp
    by_cases h1 : st < m ∧ m < en
    · have e1 : ∀ k, (if st < m then j6 k xs a m b mid st en (decide (m < en)) else j6 k xs a m b mid st en false) = j6 k xs a m b mid st en true := fun k => by rw [if_pos h1.1, decide_eq_true h1.2]
      refine Ev.congr e1 (Ev.step (fun k => by rw [hF.ej6, if_pos rfl, wr_ (m - st) (by omega) (by omega), wr_ (en - m) (by omega) (by omega)]) ?_)
      have h3 := ro_l0 hS hR (m := m) (A2.length + B1.length) A2 B1 (pre ++ A1) (B2 ++ post) (m - st) (en - m) (Nat.le_refl _) (by omega) (by omega) (by simp; omega) (by omega) (by omega) (by simp; omega)
      refine Ev.bind (a := pre ++ A1 ++ B1 ++ A2 ++ B2 ++ post) ?_ (last _ rfl)
      rw [hxs, hA12, hB12]
      simpa using h3
    · have e1 : ∀ k, (if st < m then j6 k xs a m b mid st en (decide (m < en)) else j6 k xs a m b mid st en false) = j6 k xs a m b mid st en false := fun k => by
        by_cases h2 : st < m
        · rw [if_pos h2, decide_eq_false (fun h3 => h1 ⟨h2, h3⟩)]
        · rw [if_neg h2]
      refine Ev.congr e1 (Ev.step (fun k => by rw [hF.ej6, if_neg (by simp)]) (last _ ?_))
      rw [hxs, hA12, hB12]
      by_cases h2 : st < m
      · have hB1 : B1 = [] := eq_of_len0 (by omega)
        rw [hB1]; simp
      · have hA2 : A2 = [] := eq_of_len0 (by omega)
        rw [hA2]; simp
  rw [← hxs]
  have hp : ∀ s1 s2 : Int, a ≤ s1 → s2 ≤ m → m ≤ mid + m - s2 → mid + m - s1 ≤ b → s1 ≤ s2 → (s1 = a ∨ mid + m - s1 = b) → (s2 = m ∨ mid + m - s2 = m) → Ev (fun k => l4 k xs a m b mid (mid + m) s1 s2 (mid + m - 1)) (pre ++ isort le (A ++ B) ++ post) := by
    intro s1 s2 q1 q2 q3 q4 q5 q6 q7
    refine sy_l4 hcmp hF (by omega) (by omega) (by omega) (fun c h1 h2 => by omega) (fun c e h1 h2 h3 h4 => ?_) (fun st h1 h2 h3 h4 => ?_) (s2 - s1).toNat s1 s2 (Int.le_refl _) q5 (Int.le_refl _) (Nat.le_refl _) (fun h => by omega) (fun h => by omega)
    · have g1 := leA c e (by omega) h2 (by omega)
      have g2 := leB (mid + m - 1 - e) (mid + m - 1 - c) (by omega) (by omega) (by omega)
      cases h : le (xs.getD e.toNat d) (xs.getD (mid + m - 1 - e).toNat d)
      · rfl
      · rw [ht.trans (ht.trans g1 h) g2] at h4; cases h4
    · refine follow st (by omega) (by omega) (by omega) (by omega) (fun h5 h6 => ?_) (fun h5 h6 => ?_)
      · have := h3 (by omega)
        rw [show mid + m - 1 - (st - 1) = mid + m - st by omega] at this
        exact this
      · exact h4 (by omega)
  by_cases hmm : m > mid
  · refine Ev.step (f := fun k => j4 k xs a m b mid (mid + m) (mid + m - b) mid) (fun k => by
      rw [hF.ef, wr_ (m - a) (by omega) (by omega), if_neg (by omega), wr_ (b - m) (by omega) (by omega), if_neg (by omega), hh, hmid, if_pos hmm, wr_ (mid + m) (by omega) (by omega), wr_ (mid + m - b) (by omega) (by omega)]) ?_
    refine Ev.step (f := fun k => l4 k xs a m b mid (mid + m) (mid + m - b) mid (mid + m - 1)) (fun k => by
      rw [hF.ej4, wr_ (mid + m - 1) (by omega) (by omega)]) ?_
    exact hp _ _ (by omega) (by omega) (by omega) (by omega) (by omega) (by omega) (by omega)
  · refine Ev.step (f := fun k => j4 k xs a m b mid (mid + m) a m) (fun k => by
      rw [hF.ef, wr_ (m - a) (by omega) (by omega), if_neg (by omega), wr_ (b - m) (by omega) (by omega), if_neg (by omega), hh, hmid, if_neg hmm, wr_ (mid + m) (by omega) (by omega)]) ?_
    refine Ev.step (f := fun k => l4 k xs a m b mid (mid + m) a m (mid + m - 1)) (fun k => by
      rw [hF.ej4, wr_ (mid + m - 1) (by omega) (by omega)]) ?_
    exact hp _ _ (by omega) (by omega) (by omega) (by omega) (by omega) (by omega) (by omega)
end SortD
section SortE
variable {α : Type} {d : α} {le : α → α → Bool} {cmp : α → α → Option Int}
variable {i0 : Nat → List α → Int → Int → Int → Option (List α)} {i1 : Nat → List α → Int → Int → Int → Int → Option (List α)} {s0 : Nat → List α → Int → Int → Int → Int → Option (List α)} {r0 : Nat → List α → Int → Int → Int → Option (List α)} {l0 : Nat → List α → Int → Int → Int → Option (List α)} {l1 : Nat → List α → Int → Int → Option (List α)} {l2 : Nat → List α → Int → Int → Int → Option (List α)} {l3 : Nat → List α → Int → Int → Option (List α)}
    {j4 : Nat → List α → Int → Int → Int → Int → Int → Int → Int → Option (List α)} {l4 : Nat → List α → Int → Int → Int → Int → Int → Int → Int → Int → Option (List α)} {j6 : Nat → List α → Int → Int → Int → Int → Int → Int → Bool → Option (List α)} {j7 : Nat → List α → Int → Int → Int → Int → Int → Option (List α)} {j8 : Nat → List α → Int → Int → Int → Int → Int → Bool → Option (List α)}
    {f : Nat → List α → Int → Int → Int → Option (List α)}
structure StF (i0 : Nat → List α → Int → Int → Int → Option (List α)) (f : Nat → List α → Int → Int → Int → Option (List α)) (t0 : Nat → List α → Int → Int → Int → Int → Option (List α)) (t1 : Nat → List α → Int → Int → Option (List α)) (t2 : Nat → List α → Int → Int → Int → Int → Option (List α)) : Prop where
  e0 : ∀ k xs n s a b, t0 (k + 1) xs n s a b = if b ≤ n then ((i0 k xs a b (wrap64 (a + 1))).bind fun t => t0 k t n s b (wrap64 (b + s))) else ((i0 k xs a n (wrap64 (a + 1))).bind fun t => t1 k t n s)
  e1 : ∀ k xs n s, t1 (k + 1) xs n s = if s < n then t2 k xs n s 0 (wrap64 (2 * s)) else some xs
  e2 : ∀ k xs n s a b, t2 (k + 1) xs n s a b = if b ≤ n then ((f k xs a (wrap64 (a + s)) b).bind fun t => t2 k t n s b (wrap64 (b + wrap64 (2 * s)))) else (if wrap64 (a + s) < n then ((f k xs a (wrap64 (a + s)) n).bind fun t => t1 k t n (wrap64 (s * 2))) else t1 k xs n (wrap64 (s * 2)))
variable {t0 : Nat → List α → Int → Int → Int → Int → Option (List α)} {t1 : Nat → List α → Int → Int → Option (List α)} {t2 : Nat → List α → Int → Int → Int → Int → Option (List α)}
inductive Blk (le : α → α → Bool) (s : Nat) : List α → Prop
  | last {xs : List α} : xs.length ≤ s → Srt le xs → Blk le s xs
  | more {B R : List α} : B.length = s → Srt le B → Blk le s R → Blk le s (B ++ R)
theorem Blk.srt {s : Nat} : ∀ {xs : List α}, Blk le s xs → xs.length ≤ s → Srt le xs
  | _, .last _ h, _ => h
  | _, .more (B := B) (R := R) hB h hR, hl => by
    have : R = [] := eq_of_len0 (by simp at hl; omega)
    rw [this]; simpa using h
theorem Blk.split {s : Nat} {xs : List α} (h : Blk le s xs) (hl : s < xs.length) : ∃ B R, xs = B ++ R ∧ B.length = s ∧ Srt le B ∧ Blk le s R := by
  cases h with
  | last h1 h2 => omega
  | more h1 h2 h3 => exact ⟨_, _, rfl, h1, h2, h3⟩
theorem stl_l2 (ht : TP le) (hcmp : Cmp le cmp) (hS : SwF d s0) (hR : RoF s0 r0) (hF : SyF d cmp r0 l0 l1 l2 l3 j4 l4 j6 j7 j8 f) (hT : StF i0 f t0 t1 t2) {n s : Nat} (hs : 0 < s) (hn : n < 1099511627776) (hs2 : s < 1099511627776) {r : List α} {zs : List α}
    (hk : ∀ ys : List α, ys.length = n → SEq le ys zs → Blk le (2 * s) ys → Ev (fun k => t1 k ys n ((s : Int) * 2)) r) : ∀ (c : Nat) (pre R : List α) (a b : Int), R.length ≤ c → a = pre.length → b = a + 2 * s → (pre ++ R).length = n → SEq le (pre ++ R) zs → Blk le s R →
      (∀ R', Blk le (2 * s) R' → Blk le (2 * s) (pre ++ R')) → Ev (fun k => t2 k (pre ++ R) n s a b) r := by
  intro c
  induction c with
  | zero =>
    intro pre R a b hc ha hb hl hz hB hP
    have hR0 : R = [] := eq_of_len0 (by omega)
    subst hR0
    simp at hl
    refine Ev.step (f := fun k => t1 k (pre ++ []) n ((s : Int) * 2)) (fun k => by
      rw [hT.e2, if_neg (by omega), wr_ (a + s) (by omega) (by omega), if_neg (by omega), wr_ ((s : Int) * 2) (by omega) (by omega)]) ?_
    exact hk _ (by simpa using hl) hz (hP [] (.last (by simp) .nil))
  | succ c ih =>
    intro pre R a b hc ha hb hl hz hB hP
    have hl2 : pre.length + R.length = n := by simpa using hl
    by_cases h1 : b ≤ n
    · obtain ⟨B1, R1, rfl, hB1, sB1, hR1⟩ := hB.split (by omega)
      obtain ⟨B2, R2, rfl, hB2, sB2, hR2⟩ : ∃ B R, R1 = B ++ R ∧ B.length = s ∧ Srt le B ∧ Blk le s R := by
        simp at hl2
        by_cases h2 : s < R1.length
        · exact hR1.split h2
        · exact ⟨R1, [], by simp, by omega, hR1.srt (by omega), .last (by simp) .nil⟩
      simp at hl2 hc
      refine Ev.step (f := fun k => (f k (pre ++ (B1 ++ (B2 ++ R2))) a (a + s) b).bind fun t => t2 k t n s b (b + 2 * s)) (fun k => by
        rw [hT.e2, if_pos h1, wr_ (a + s) (by omega) (by omega), wr_ (2 * (s : Int)) (by omega) (by omega), wr_ (b + 2 * s) (by omega) (by omega)]) ?_
      have h3 := sy_f ht hcmp hS hR hF (B1.length + B2.length) B1 B2 pre R2 a (a + s) b (Nat.le_refl _) (by omega) (by omega) ha (by omega) (by omega) (by simp; omega) sB1 sB2
      refine Ev.bind (a := pre ++ isort le (B1 ++ B2) ++ R2) (by simpa using h3) ?_
      have hil : (isort le (B1 ++ B2)).length = 2 * s := by rw [isort_len]; simp; omega
      refine ih (pre ++ isort le (B1 ++ B2)) R2 b (b + 2 * s) (by omega) (by simp; omega) rfl (by simp; omega) (SEq.trans ?_ hz) hR2 (fun R' h4 => ?_)
      · have := SEq.append (SEq.append (SEq.refl pre) (isort_seq ht (B1 ++ B2))) (SEq.refl R2)
        simpa using this
      · have := hP (isort le (B1 ++ B2) ++ R') (.more hil (isort_srt ht _) h4)
        simpa using this
    · by_cases h2 : a + s < n
      · obtain ⟨B1, R1, rfl, hB1, sB1, hR1⟩ := hB.split (by omega)
        simp at hl2
        have sR1 := hR1.srt (by omega)
        refine Ev.step (f := fun k => (f k (pre ++ (B1 ++ R1)) a (a + s) n).bind fun t => t1 k t n ((s : Int) * 2)) (fun k => by
          rw [hT.e2, if_neg h1, wr_ (a + s) (by omega) (by omega), if_pos h2, wr_ ((s : Int) * 2) (by omega) (by omega)]) ?_
        have h3 := sy_f ht hcmp hS hR hF (B1.length + R1.length) B1 R1 pre [] a (a + s) n (Nat.le_refl _) (by omega) (by omega) ha (by omega) (by omega) (by simp; omega) sB1 sR1
        refine Ev.bind (a := pre ++ isort le (B1 ++ R1)) (by simpa using h3) ?_
        refine hk _ (by simp [isort_len]; omega) (SEq.trans ?_ hz) (hP _ (.last (by rw [isort_len]; simp; omega) (isort_srt ht _)))
        exact SEq.append (SEq.refl pre) (isort_seq ht (B1 ++ R1))
      · refine Ev.step (f := fun k => t1 k (pre ++ R) n ((s : Int) * 2)) (fun k => by
          rw [hT.e2, if_neg h1, wr_ (a + s) (by omega) (by omega), if_neg h2, wr_ ((s : Int) * 2) (by omega) (by omega)]) ?_
        exact hk _ hl hz (hP R (.last (by omega) (hB.srt (by omega))))
theorem stl_l1 (ht : TP le) (hcmp : Cmp le cmp) (hS : SwF d s0) (hR : RoF s0 r0) (hF : SyF d cmp r0 l0 l1 l2 l3 j4 l4 j6 j7 j8 f) (hT : StF i0 f t0 t1 t2) {n : Nat} (hn : n < 1099511627776) {zs : List α} : ∀ (c s : Nat) (ys : List α), 0 < s → s < 1099511627776 * 2 → n - s ≤ c → ys.length = n → SEq le ys zs → Blk le s ys →
    Ev (fun k => t1 k ys n (s : Int)) (isort le zs) := by
  intro c
  induction c with
  | zero =>
    intro s ys h0 h1 h2 h3 h4 h5
    refine Ev.step (f := fun _ => some (isort le zs)) (fun k => ?_) (Ev.now _)
    rw [hT.e1, if_neg (by omega), isort_eq ht (h5.srt (by omega)) h4]
  | succ c ih =>
    intro s ys h0 h1 h2 h3 h4 h5
    by_cases h6 : s < n
    · refine Ev.step (f := fun k => t2 k ys n s 0 (2 * s)) (fun k => by rw [hT.e1, if_pos (by omega), wr_ (2 * (s : Int)) (by omega) (by omega)]) ?_
      have := stl_l2 ht hcmp hS hR hF hT (n := n) (s := s) h0 hn (by omega) (r := isort le zs) (zs := zs) (fun ys' g1 g2 g3 => ?_) ys.length [] ys 0 (2 * s) (Nat.le_refl _) (by simp) (by omega) (by simpa using h3) (by simpa using h4) h5 (fun R' h => by simpa using h)
      · simpa using this
      · have := ih (2 * s) ys' (by omega) (by omega) (by omega) g1 g2 g3
        rw [show ((s : Int) * 2) = ((2 * s : Nat) : Int) by omega]
        exact this
    · refine Ev.step (f := fun _ => some (isort le zs)) (fun k => ?_) (Ev.now _)
      rw [hT.e1, if_neg (by omega), isort_eq ht (h5.srt (by omega)) h4]
theorem stl_l0 (ht : TP le) (hcmp : Cmp le cmp) (hI : InsF d cmp i0 i1) (hT : StF i0 f t0 t1 t2) {n s : Nat} (hs : 0 < s) (hn : n < 1099511627776) (hs2 : s < 1099511627776) {r : List α} {zs : List α}
    (hk : ∀ ys : List α, ys.length = n → SEq le ys zs → Blk le s ys → Ev (fun k => t1 k ys n s) r) : ∀ (c : Nat) (pre R : List α) (a b : Int), R.length ≤ c → a = pre.length → b = a + s → (pre ++ R).length = n → SEq le (pre ++ R) zs →
      (∀ R', Blk le s R' → Blk le s (pre ++ R')) → Ev (fun k => t0 k (pre ++ R) n s a b) r := by
  intro c
  induction c with
  | zero =>
    intro pre R a b hc ha hb hl hz hP
    have hR0 : R = [] := eq_of_len0 (by omega)
    subst hR0
    simp at hl
    refine Ev.step (f := fun k => (i0 k (pre ++ []) a n (wrap64 (a + 1))).bind fun t => t1 k t n s) (fun k => by rw [hT.e0, if_neg (by omega)]) ?_
    have h3 := ins_f ht hcmp hI (pre := pre) (S := []) (post := []) (a := a) (b := n) ha (by simp; omega) (by simp; omega)
    refine Ev.bind (a := pre ++ []) (by simpa [isort] using h3) (hk _ (by simpa using hl) hz (hP [] (.last (by simp) .nil)))
  | succ c ih =>
    intro pre R a b hc ha hb hl hz hP
    have hl2 : pre.length + R.length = n := by simpa using hl
    by_cases h1 : b ≤ n
    · obtain ⟨B, R2, rfl, hB⟩ : ∃ B R2, R = B ++ R2 ∧ B.length = s := ⟨R.take s, R.drop s, (List.take_append_drop _ _).symm, by rw [List.length_take]; omega⟩
      simp at hl2 hc
      refine Ev.step (f := fun k => (i0 k (pre ++ (B ++ R2)) a b (wrap64 (a + 1))).bind fun t => t0 k t n s b (b + s)) (fun k => by rw [hT.e0, if_pos h1, wr_ (b + s) (by omega) (by omega)]) ?_
      have h3 := ins_f ht hcmp hI (pre := pre) (S := B) (post := R2) (a := a) (b := b) ha (by omega) (by simp; omega)
      refine Ev.bind (a := pre ++ isort le B ++ R2) (by simpa using h3) ?_
      have hil : (isort le B).length = s := by rw [isort_len]; omega
      refine ih (pre ++ isort le B) R2 b (b + s) (by omega) (by simp; omega) rfl (by simp; omega) (SEq.trans ?_ hz) (fun R' h4 => ?_)
      · have := SEq.append (SEq.append (SEq.refl pre) (isort_seq ht B)) (SEq.refl R2)
        simpa using this
      · have := hP (isort le B ++ R') (.more hil (isort_srt ht _) h4)
        simpa using this
    · refine Ev.step (f := fun k => (i0 k (pre ++ R) a n (wrap64 (a + 1))).bind fun t => t1 k t n s) (fun k => by rw [hT.e0, if_neg h1]) ?_
      have h3 := ins_f ht hcmp hI (pre := pre) (S := R) (post := []) (a := a) (b := n) ha (by omega) (by simp; omega)
      refine Ev.bind (a := pre ++ isort le R) (by simpa using h3) ?_
      refine hk _ (by simp [isort_len]; omega) (SEq.trans ?_ hz) (hP _ (.last (by rw [isort_len]; omega) (isort_srt ht _)))
      exact SEq.append (SEq.refl pre) (isort_seq ht R)
theorem stl_f (ht : TP le) (hcmp : Cmp le cmp) (hI : InsF d cmp i0 i1) (hS : SwF d s0) (hR : RoF s0 r0) (hF : SyF d cmp r0 l0 l1 l2 l3 j4 l4 j6 j7 j8 f) (hT : StF i0 f t0 t1 t2) (xs : List α) (hl : xs.length < 1099511627776) : Ev (fun k => t0 k xs (xs.length : Int) 20 0 20) (isort le xs) := by
  have := stl_l0 ht hcmp hI hT (n := xs.length) (s := 20) (by omega) hl (by omega) (r := isort le xs) (zs := xs) (fun ys g1 g2 g3 => stl_l1 ht hcmp hS hR hF hT hl xs.length 20 ys (by omega) (by omega) (by omega) g1 g2 g3) xs.length [] xs 0 20 (Nat.le_refl _) (by simp) (by omega) (by simp) (SEq.refl _) (fun R' h => by simpa using h)
  simpa using this
end SortE

theorem sortI_Job__job_Due_1 : InsF z32 ((fun x y : S32 => job_Due_1.f x.f0 x.f1 x.f2 x.f3 x.f4 x.f5 x.f6 x.f7 x.f8 x.f9 x.f10 x.f11 y.f0 y.f1 y.f2 y.f3 y.f4 y.f5 y.f6 y.f7 y.f8 y.f9 y.f10 y.f11)) slices_insertionSortCmpFunc_Job__job_Due_1.l0 slices_insertionSortCmpFunc_Job__job_Due_1.l1 := ⟨by intros; simp only [slices_insertionSortCmpFunc_Job__job_Due_1.l0], by intros; simp only [slices_insertionSortCmpFunc_Job__job_Due_1.l1]; rfl⟩
theorem sortW_Job__job_Due_1 : SwF z32 slices_swapRangeCmpFunc_Job__job_Due_1.l0 := ⟨by intros; simp only [slices_swapRangeCmpFunc_Job__job_Due_1.l0]; rfl⟩
theorem sortR_Job__job_Due_1 : RoF slices_swapRangeCmpFunc_Job__job_Due_1.l0 slices_rotateCmpFunc_Job__job_Due_1.l0 := ⟨by intros; simp only [slices_rotateCmpFunc_Job__job_Due_1.l0, slices_swapRangeCmpFunc_Job__job_Due_1.f]⟩
theorem sortY_Job__job_Due_1 : SyF z32 ((fun x y : S32 => job_Due_1.f x.f0 x.f1 x.f2 x.f3 x.f4 x.f5 x.f6 x.f7 x.f8 x.f9 x.f10 x.f11 y.f0 y.f1 y.f2 y.f3 y.f4 y.f5 y.f6 y.f7 y.f8 y.f9 y.f10 y.f11)) slices_rotateCmpFunc_Job__job_Due_1.l0 slices_symMergeCmpFunc_Job__job_Due_1.l0 slices_symMergeCmpFunc_Job__job_Due_1.l1 slices_symMergeCmpFunc_Job__job_Due_1.l2 slices_symMergeCmpFunc_Job__job_Due_1.l3 slices_symMergeCmpFunc_Job__job_Due_1.j4 slices_symMergeCmpFunc_Job__job_Due_1.l4 slices_symMergeCmpFunc_Job__job_Due_1.j6 slices_symMergeCmpFunc_Job__job_Due_1.j7 slices_symMergeCmpFunc_Job__job_Due_1.j8 slices_symMergeCmpFunc_Job__job_Due_1.f where
  ef := by intros; simp only [slices_symMergeCmpFunc_Job__job_Due_1.f]
  e0 := by intros; simp only [slices_symMergeCmpFunc_Job__job_Due_1.l0]; rfl
  e1 := by intros; simp only [slices_symMergeCmpFunc_Job__job_Due_1.l1]; rfl
  e2 := by intros; simp only [slices_symMergeCmpFunc_Job__job_Due_1.l2]; rfl
  e3 := by intros; simp only [slices_symMergeCmpFunc_Job__job_Due_1.l3]; rfl
  ej4 := by intros; simp only [slices_symMergeCmpFunc_Job__job_Due_1.j4]
  e4 := by intros; simp only [slices_symMergeCmpFunc_Job__job_Due_1.l4]; rfl
  ej6 := by intros; simp only [slices_symMergeCmpFunc_Job__job_Due_1.j6, slices_rotateCmpFunc_Job__job_Due_1.f]
  ej7 := by intros; simp only [slices_symMergeCmpFunc_Job__job_Due_1.j7]
  ej8 := by intros; simp only [slices_symMergeCmpFunc_Job__job_Due_1.j8]
theorem sortB_Job__job_Due_1 : StF slices_insertionSortCmpFunc_Job__job_Due_1.l0 slices_symMergeCmpFunc_Job__job_Due_1.f slices_stableCmpFunc_Job__job_Due_1.l0 slices_stableCmpFunc_Job__job_Due_1.l1 slices_stableCmpFunc_Job__job_Due_1.l2 := ⟨by intros; simp only [slices_stableCmpFunc_Job__job_Due_1.l0, slices_insertionSortCmpFunc_Job__job_Due_1.f], by intros; simp only [slices_stableCmpFunc_Job__job_Due_1.l1], by intros; simp only [slices_stableCmpFunc_Job__job_Due_1.l2]⟩
theorem SORT_Job__job_Due_1 {le : S32 → S32 → Bool} (ht : TP le) (hc : Cmp le ((fun x y : S32 => job_Due_1.f x.f0 x.f1 x.f2 x.f3 x.f4 x.f5 x.f6 x.f7 x.f8 x.f9 x.f10 x.f11 y.f0 y.f1 y.f2 y.f3 y.f4 y.f5 y.f6 y.f7 y.f8 y.f9 y.f10 y.f11))) (xs : List S32) (hl : xs.length < 1099511627776) : Ev (fun k => slices_SortStableFunc_Job__job_Due_1.f k xs) (isort le xs) := by
  have h := stl_f ht hc sortI_Job__job_Due_1 sortW_Job__job_Due_1 sortR_Job__job_Due_1 sortY_Job__job_Due_1 sortB_Job__job_Due_1 xs hl
  have e : ∀ k, slices_SortStableFunc_Job__job_Due_1.f k xs = (slices_stableCmpFunc_Job__job_Due_1.l0 k xs (xs.length : Int) 20 0 20) := fun k => by
    unfold slices_SortStableFunc_Job__job_Due_1.f slices_stableCmpFunc_Job__job_Due_1.f
    cases slices_stableCmpFunc_Job__job_Due_1.l0 k xs (xs.length : Int) 20 0 20 <;> rfl
  exact Ev.congr e h

def endOf (x : S32) : Int := wrap64 (x.f8 + x.f3)
def leD (x y : S32) : Bool := decide (endOf x < endOf y) || (decide (endOf x = endOf y) && decide (x.f0 ≤ y.f0))
theorem tpD : TP leD := by
  constructor
  · intro a b; unfold leD; simp only [Bool.or_eq_true, Bool.and_eq_true, decide_eq_true_eq]; omega
  · intro a b c; unfold leD; simp only [Bool.or_eq_true, Bool.and_eq_true, decide_eq_true_eq]; omega
theorem cmpc (x y : Int) : cmp_Compare_int.f x y = some (if x < y then -1 else if x > y then 1 else 0) := by
  unfold cmp_Compare_int.f cmp_isNaN_int.f
  simp only [Option.bind_some]
  first | (split <;> (try split) <;> simp_all; done) | (simp; split <;> (try split) <;> rfl)
theorem orc (x y : Int) : cmp_Or_int.f 10 [x, y] = some (if x = 0 then y else x) := by
  have e1 : wrap64 (0 + 1) = 1 := by decide +kernel
  have e2 : wrap64 (1 + 1) = 2 := by decide +kernel
  unfold cmp_Or_int.f
  rw [cmp_Or_int.l0.eq_2, if_pos (by simp), if_pos (by omega), if_pos (by simp)]
  rw [show rd [x, y] 0 = x from rfl]
  by_cases hx : x = 0
  · rw [if_pos hx, if_pos hx, e1, cmp_Or_int.l0.eq_2, if_pos (by simp), if_pos (by omega), if_pos (by simp)]
    rw [show rd [x, y] 1 = y from rfl]
    by_cases hy : y = 0
    · rw [if_pos hy, e2, cmp_Or_int.l0.eq_2, if_neg (by simp), hy]
    · rw [if_neg hy]
  · rw [if_neg hx, if_neg hx]
theorem cmpD : Cmp leD (fun x y : S32 => job_Due_1.f x.f0 x.f1 x.f2 x.f3 x.f4 x.f5 x.f6 x.f7 x.f8 x.f9 x.f10 x.f11 y.f0 y.f1 y.f2 y.f3 y.f4 y.f5 y.f6 y.f7 y.f8 y.f9 y.f10 y.f11) := by
  intro a b
  refine ⟨_, by unfold job_Due_1.f job_DueL.f; dsimp only; rw [cmpc, cmpc, Option.bind_some, Option.bind_some, orc]; rfl, ?_⟩
  unfold leD endOf
  rw [Bool.eq_false_iff]
  simp only [ne_eq, Bool.or_eq_true, Bool.and_eq_true, decide_eq_true_eq]
  repeat' split
  all_goals omega
theorem sort_ev (xs : List S32) (hl : xs.length < 1099511627776) : Ev (fun k => slices_SortStableFunc_Job__job_Due_1.f k xs) (isort leD xs) := SORT_Job__job_Due_1 tpD cmpD xs hl
end Go.Proofs.Ytkhfgflcanmefaa.Pure
end
section
set_option linter.unusedVariables false
set_option linter.unusedSimpArgs false
namespace Go.Proofs.Ytkhfgflcanmefaa.Pure
open Go Go.RowKit Go.Proofs.Ytkhfgflcanmefaa.PAll Go.Proofs.YtkhfgflcanmefaaW.PrintWords Go.Proofs.YtkhfgflcanmefaaW.PrintLast

theorem awake_ev : Ev (fun k => prebendlaw19_awake.f k) true := by
  refine ⟨80, fun k hk => ?_⟩
  have h : prebendlaw19_awake.f 80 = some true := by decide +kernel
  obtain ⟨d, rfl⟩ : ∃ d, k = 80 + d := ⟨k - 80, by omega⟩
  induction d with
  | zero => exact h
  | succ d ih => exact prebendlaw19_awake.mono _ _ (ih (by omega))
def rs (l : List S32) : List S32 := l.filter (fun x => x.f7 == 3)
theorem rdJ {l : List S32} {i : Nat} (h : i < l.length) : rd_T32 l (i : Int) = l[i] := by simp [rd_T32, List.getD_eq_getElem?_getD, h]
theorem run1 (x : S32) : job_running_1.f x.f0 x.f1 x.f2 x.f3 x.f4 x.f5 x.f6 x.f7 x.f8 x.f9 x.f10 x.f11 = some (x.f7 != 3) := rfl
theorem take1 {l : List S32} {i : Nat} (h : i < l.length) : l.take (i + 1) = l.take i ++ [l[i]] := (List.take_append_getElem h).symm
theorem idx_l0 (l : List S32) (hl : l.length ≤ 1000) : ∀ (d i : Nat), i + d = l.length → (∀ x ∈ l.take i, x.f7 = 3) → ∃ r : Int, Ev (fun k => slices_IndexFunc_Job__job_running_1.l0 k l (l.length : Int) (i : Int)) r ∧
    ((r = -1 ∧ ∀ x ∈ l, x.f7 = 3) ∨ ∃ p : Nat, r = (p : Int) ∧ ∃ hp : p < l.length, (∀ x ∈ l.take p, x.f7 = 3) ∧ l[p].f7 ≠ 3)
  | 0, i, h, ha => by
    refine ⟨-1, ⟨1, fun k hk => ?_⟩, .inl ⟨rfl, fun x hx => ha x (by rw [List.take_of_length_le (by omega)]; exact hx)⟩⟩
    obtain ⟨k, rfl⟩ : ∃ k', k = k' + 1 := ⟨k - 1, by omega⟩
    show slices_IndexFunc_Job__job_running_1.l0 (k + 1) l (l.length : Int) (i : Int) = _
    rw [slices_IndexFunc_Job__job_running_1.l0.eq_2, if_neg (by omega)]
  | d + 1, i, h, ha => by
    have hi : i < l.length := by omega
    have ew : wrap64 ((i : Int) + 1) = ((i + 1 : Nat) : Int) := by unfold wrap64; omega
    by_cases c : l[i].f7 = 3
    · obtain ⟨r, ⟨K, hK⟩, hr⟩ := idx_l0 l hl d (i + 1) (by omega) (fun x hx => by
        rw [take1 hi] at hx
        rcases List.mem_append.mp hx with hx | hx
        · exact ha x hx
        · rw [List.mem_singleton.mp hx]; exact c)
      refine ⟨r, ⟨K + 1, fun k hk => ?_⟩, hr⟩
      obtain ⟨k, rfl⟩ : ∃ k', k = k' + 1 := ⟨k - 1, by omega⟩
      have hk2 : slices_IndexFunc_Job__job_running_1.l0 k l (l.length : Int) ((i + 1 : Nat) : Int) = some r := hK k (by omega)
      show slices_IndexFunc_Job__job_running_1.l0 (k + 1) l (l.length : Int) (i : Int) = _
      have hc : (l[i].f7 != 3) = false := by simp [c]
      rw [slices_IndexFunc_Job__job_running_1.l0.eq_2, if_pos (by omega), if_pos (by omega), if_pos (by omega), rdJ hi, run1, Option.bind_some, hc, if_neg (by decide), ew, hk2]
    · refine ⟨i, ⟨1, fun k hk => ?_⟩, .inr ⟨i, rfl, hi, ha, c⟩⟩
      obtain ⟨k, rfl⟩ : ∃ k', k = k' + 1 := ⟨k - 1, by omega⟩
      show slices_IndexFunc_Job__job_running_1.l0 (k + 1) l (l.length : Int) (i : Int) = _
      have hc : (l[i].f7 != 3) = true := by simp [c]
      rw [slices_IndexFunc_Job__job_running_1.l0.eq_2, if_pos (by omega), if_pos (by omega), if_pos (by omega), rdJ hi, run1, Option.bind_some, hc, if_pos rfl]
theorem del_l0 (l : List S32) (hl : l.length ≤ 1000) : ∀ (d j i : Nat) (x0 : List S32), j + d = l.length → x0.length = l.length → i ≤ j → x0.take i = rs (l.take j) → x0.drop j = l.drop j → Ev (fun k => slices_DeleteFunc_Job__job_running_1.l0 k x0 (i : Int) (j : Int)) (rs l)
  | 0, j, i, x0, h, hx, hij, ht, hd => by
    refine ⟨1, fun k hk => ?_⟩
    obtain ⟨k, rfl⟩ : ∃ k', k = k' + 1 := ⟨k - 1, by omega⟩
    show slices_DeleteFunc_Job__job_running_1.l0 (k + 1) x0 (i : Int) (j : Int) = _
    rw [slices_DeleteFunc_Job__job_running_1.l0.eq_2, if_neg (by omega), if_pos (by omega), if_pos (by omega), Int.toNat_natCast, ht, List.take_of_length_le (by omega)]
  | d + 1, j, i, x0, h, hx, hij, ht, hd => by
    have hj : j < l.length := by omega
    have hj0 : j < x0.length := by omega
    have ew : wrap64 ((j : Int) + 1) = ((j + 1 : Nat) : Int) := by unfold wrap64; omega
    have ei : wrap64 ((i : Int) + 1) = ((i + 1 : Nat) : Int) := by unfold wrap64; omega
    rw [List.drop_eq_getElem_cons hj, List.drop_eq_getElem_cons hj0] at hd
    injection hd with hd1 hd2
    by_cases c : l[j].f7 = 3
    · have hc : (l[j].f7 != 3) = false := by simp [c]
      obtain ⟨K, hK⟩ := del_l0 l hl d (j + 1) (i + 1) (x0.set i l[j]) (by omega) (by simp; omega) (by omega) (by
        have hi : i < x0.length := by omega
        have h1 : (x0.set i l[j]).take (i + 1) = x0.take i ++ [l[j]] := by
          rw [take1 (by rw [List.length_set]; exact hi), List.take_set_of_le (Nat.le_refl i), List.getElem_set_self]
        rw [h1, ht, take1 hj]
        unfold rs
        rw [List.filter_append]
        congr 1
        simp [c]) (by rw [List.drop_set_of_lt (by omega)]; exact hd2)
      refine ⟨K + 1, fun k hk => ?_⟩
      obtain ⟨k, rfl⟩ : ∃ k', k = k' + 1 := ⟨k - 1, by omega⟩
      have hk2 : slices_DeleteFunc_Job__job_running_1.l0 k (x0.set i l[j]) ((i + 1 : Nat) : Int) ((j + 1 : Nat) : Int) = some (rs l) := hK k (by omega)
      show slices_DeleteFunc_Job__job_running_1.l0 (k + 1) x0 (i : Int) (j : Int) = _
      rw [slices_DeleteFunc_Job__job_running_1.l0.eq_2, if_pos (by omega), if_pos (by omega), rdJ hj0, hd1, run1, Option.bind_some, hc, if_neg (by decide), if_pos (by omega), if_pos (by omega), ew, ei, Int.toNat_natCast]
      exact hk2
    · have hc : (l[j].f7 != 3) = true := by simp [c]
      obtain ⟨K, hK⟩ := del_l0 l hl d (j + 1) i x0 (by omega) hx (by omega) (by
        rw [ht, take1 hj]
        unfold rs
        rw [List.filter_append]
        simp [c]) hd2
      refine ⟨K + 1, fun k hk => ?_⟩
      obtain ⟨k, rfl⟩ : ∃ k', k = k' + 1 := ⟨k - 1, by omega⟩
      have hk2 : slices_DeleteFunc_Job__job_running_1.l0 k x0 (i : Int) ((j + 1 : Nat) : Int) = some (rs l) := hK k (by omega)
      show slices_DeleteFunc_Job__job_running_1.l0 (k + 1) x0 (i : Int) (j : Int) = _
      rw [slices_DeleteFunc_Job__job_running_1.l0.eq_2, if_pos (by omega), if_pos (by omega), rdJ hj0, hd1, run1, Option.bind_some, hc, if_pos rfl, ew, hk2]
theorem rs_all {l : List S32} (h : ∀ x ∈ l, x.f7 = 3) : rs l = l := List.filter_eq_self.mpr (fun x hx => by simp [h x hx])
theorem rs_len (l : List S32) : (rs l).length ≤ l.length := List.length_filter_le _ _
theorem run_ev (l : List S32) (hl : l.length ≤ 1000) : Ev (fun k => job_running.f k l) (rs l) := by
  obtain ⟨r, ⟨K, hK⟩, hr⟩ := idx_l0 l hl l.length 0 (by omega) (by simp)
  have clone : slices_Clone_Job.f l = some l := by
    unfold slices_Clone_Job.f
    rw [Option.bind_some, if_pos (by simp; omega), List.nil_append]
  rcases hr with ⟨rfl, ha⟩ | ⟨p, rfl, hp, ha, hn⟩
  · refine ⟨K, fun k hk => ?_⟩
    have hk2 : slices_IndexFunc_Job__job_running_1.l0 k l (l.length : Int) ((0 : Nat) : Int) = some (-1) := hK k hk
    show job_running.f k l = _
    unfold job_running.f slices_DeleteFunc_Job__job_running_1.f slices_IndexFunc_Job__job_running_1.f
    rw [clone, Option.bind_some]
    have hk3 : slices_IndexFunc_Job__job_running_1.l0 k l (l.length : Int) 0 = some (-1) := hk2
    rw [hk3, Option.bind_some, if_pos rfl, rs_all ha]
    rfl
  · have ew : wrap64 ((p : Int) + 1) = ((p + 1 : Nat) : Int) := by unfold wrap64; omega
    obtain ⟨K2, hK2⟩ := del_l0 l hl (l.length - (p + 1)) (p + 1) p l (by omega) rfl (by omega) (by
      rw [take1 hp]
      unfold rs
      rw [List.filter_append]
      have h1 : (l.take p).filter (fun x => x.f7 == 3) = l.take p := rs_all ha
      rw [h1]
      simp [hn]) rfl
    refine ⟨K + K2, fun k hk => ?_⟩
    have hk2 : slices_IndexFunc_Job__job_running_1.l0 k l (l.length : Int) ((0 : Nat) : Int) = some (p : Int) := hK k (by omega)
    have hk3 : slices_IndexFunc_Job__job_running_1.l0 k l (l.length : Int) 0 = some (p : Int) := hk2
    have hk4 : slices_DeleteFunc_Job__job_running_1.l0 k l (p : Int) ((p + 1 : Nat) : Int) = some (rs l) := hK2 k (by omega)
    show job_running.f k l = _
    unfold job_running.f slices_DeleteFunc_Job__job_running_1.f slices_IndexFunc_Job__job_running_1.f
    rw [clone, Option.bind_some, hk3, Option.bind_some, if_neg (by omega), ew, hk4]
    rfl
theorem held16 (a : Int) : ∃ v, prebendref16_Held.f a 1125899906842624 = some v := by
  unfold prebendref16_Held.f
  split
  · exact ⟨_, rfl⟩
  · split
    · exact ⟨_, rfl⟩
    · exact ⟨_, rfl⟩
theorem held_l0 (l : List S32) : ∀ (d i : Nat) (acc : List S32), i + d = 24 → acc.length = i → i ≤ l.length → ∃ h, Ev (fun k => prebendref19_Held.l0 k l acc (i : Int)) h ∧ h.length ≤ 24
  | 0, i, acc, hd, ha, hi => by
    refine ⟨acc, ⟨2, fun k hk => ?_⟩, by omega⟩
    obtain ⟨k, rfl⟩ : ∃ k', k = k' + 2 := ⟨k - 2, by omega⟩
    show prebendref19_Held.l0 (k + 1 + 1) l acc (i : Int) = _
    have hj : prebendref19_Held.j1 (k + 1) l acc (i : Int) false = some acc := by rw [prebendref19_Held.j1.eq_2, if_neg (by decide)]
    rw [prebendref19_Held.l0.eq_2, decide_eq_false (show ¬ ((i : Int) < 24) by omega), hj]
    split <;> rfl
  | d + 1, i, acc, hd, ha, hi => by
    by_cases c : i < l.length
    · have ew : wrap64 ((i : Int) + 1) = ((i + 1 : Nat) : Int) := by unfold wrap64; omega
      obtain ⟨u, hu⟩ := held16 (rd_T32 l (i : Int)).f8
      obtain ⟨v, hv⟩ := held16 (rd_T32 l (i : Int)).f3
      obtain ⟨h, ⟨K, hK⟩, hh⟩ := held_l0 l d (i + 1) (acc ++ [(⟨(rd_T32 l (i : Int)).f0, (rd_T32 l (i : Int)).f1, (rd_T32 l (i : Int)).f2, v, (rd_T32 l (i : Int)).f4, (rd_T32 l (i : Int)).f5, (rd_T32 l (i : Int)).f6, (rd_T32 l (i : Int)).f7, u, (rd_T32 l (i : Int)).f9, (rd_T32 l (i : Int)).f10, (rd_T32 l (i : Int)).f11⟩ : S32)]) (by omega) (by simp; omega) (by omega)
      refine ⟨h, ⟨K + 2, fun k hk => ?_⟩, hh⟩
      obtain ⟨k, rfl⟩ : ∃ k', k = k' + 2 := ⟨k - 2, by omega⟩
      have hk2 : prebendref19_Held.l0 k l _ ((i + 1 : Nat) : Int) = some h := hK k (by omega)
      show prebendref19_Held.l0 (k + 1 + 1) l acc (i : Int) = _
      rw [prebendref19_Held.l0.eq_2, if_pos (by omega), decide_eq_true (by omega), prebendref19_Held.j1.eq_2, if_pos rfl, if_pos (by omega), if_pos (by omega), hu, Option.bind_some, hv, Option.bind_some, if_pos (by omega), ew, hk2]
    · refine ⟨acc, ⟨2, fun k hk => ?_⟩, by omega⟩
      obtain ⟨k, rfl⟩ : ∃ k', k = k' + 2 := ⟨k - 2, by omega⟩
      show prebendref19_Held.l0 (k + 1 + 1) l acc (i : Int) = _
      rw [prebendref19_Held.l0.eq_2, if_neg (by omega), prebendref19_Held.j1.eq_2, if_neg (by decide)]
theorem held_ev (l : List S32) : ∃ h, Ev (fun k => prebendref19_Held.f k l) h ∧ h.length ≤ 24 := held_l0 l 24 0 [] (by omega) rfl (by omega)
def due (l : List S32) (now : Int) : List Int := ((isort leD (rs l)).filter (fun x => decide (endOf x ≤ now))).map (·.f0)
theorem due_l0 (r : List S32) (hl : r.length ≤ 1000) (now : Int) (m : Int) (hm : m = (r.length : Int)) : ∀ (d i : Nat) (acc : List Int), i + d = r.length → acc.length ≤ i → Ev (fun k => job_Due.l0 k now acc r m (i : Int)) (acc ++ ((r.drop i).filter (fun x => decide (endOf x ≤ now))).map (·.f0))
  | 0, i, acc, h, ha => by
    refine ⟨1, fun k hk => ?_⟩
    obtain ⟨k, rfl⟩ : ∃ k', k = k' + 1 := ⟨k - 1, by omega⟩
    show job_Due.l0 (k + 1) now acc r m (i : Int) = _
    rw [job_Due.l0.eq_2, if_neg (by omega), List.drop_eq_nil_of_le (by omega)]
    simp [slices_Clip_int.f]
  | d + 1, i, acc, h, ha => by
    have hi : i < r.length := by omega
    have ew : wrap64 ((i : Int) + 1) = ((i + 1 : Nat) : Int) := by unfold wrap64; omega
    by_cases c : endOf r[i] ≤ now
    · obtain ⟨K, hK⟩ := due_l0 r hl now m hm d (i + 1) (acc ++ [r[i].f0]) (by omega) (by simp; omega)
      refine ⟨K + 1, fun k hk => ?_⟩
      obtain ⟨k, rfl⟩ : ∃ k', k = k' + 1 := ⟨k - 1, by omega⟩
      have hk2 : job_Due.l0 k now (acc ++ [r[i].f0]) r m ((i + 1 : Nat) : Int) = some _ := hK k (by omega)
      have c' : wrap64 (r[i].f8 + r[i].f3) ≤ now := c
      show job_Due.l0 (k + 1) now acc r m (i : Int) = _
      rw [job_Due.l0.eq_2, if_pos (by omega), if_pos (by omega), if_pos (by omega), rdJ hi, if_pos c', if_pos (by omega), ew, hk2, List.drop_eq_getElem_cons hi, List.filter_cons, if_pos (by simpa using c), List.map_cons, List.append_assoc, List.singleton_append]
    · obtain ⟨K, hK⟩ := due_l0 r hl now m hm d (i + 1) acc (by omega) (by omega)
      refine ⟨K + 1, fun k hk => ?_⟩
      obtain ⟨k, rfl⟩ : ∃ k', k = k' + 1 := ⟨k - 1, by omega⟩
      have hk2 : job_Due.l0 k now acc r m ((i + 1 : Nat) : Int) = some _ := hK k (by omega)
      have c' : ¬ (wrap64 (r[i].f8 + r[i].f3) ≤ now) := c
      show job_Due.l0 (k + 1) now acc r m (i : Int) = _
      rw [job_Due.l0.eq_2, if_pos (by omega), if_pos (by omega), if_pos (by omega), rdJ hi, if_neg c', ew, hk2, List.drop_eq_getElem_cons hi, List.filter_cons, if_neg (by simpa using c)]
theorem due_ev (l : List S32) (hl : l.length ≤ 1000) (now : Int) : Ev (fun k => job_Due.f k l now) (due l now) := by
  obtain ⟨K1, hK1⟩ := run_ev l hl
  have hr := rs_len l
  obtain ⟨K2, hK2⟩ := sort_ev (rs l) (by omega)
  have hs : (isort leD (rs l)).length = (rs l).length := isort_len _
  obtain ⟨K3, hK3⟩ := due_l0 (isort leD (rs l)) (by omega) now ((rs l).length : Int) (by omega) (isort leD (rs l)).length 0 [] (by omega) (Nat.le_refl _)
  refine ⟨K1 + K2 + K3, fun k hk => ?_⟩
  have h1 : job_running.f k l = some _ := hK1 k (by omega)
  have h2 : slices_SortStableFunc_Job__job_Due_1.f k (rs l) = some _ := hK2 k (by omega)
  have h3 := hK3 k (by omega)
  show job_Due.f k l now = _
  unfold job_Due.f
  rw [h1, Option.bind_some, h2, Option.bind_some]
  exact h3
theorem due_len (l : List S32) (now : Int) : (due l now).length ≤ l.length := by
  unfold due
  rw [List.length_map]
  refine Nat.le_trans (List.length_filter_le _ _) ?_
  rw [isort_len]; exact rs_len l

end Go.Proofs.Ytkhfgflcanmefaa.Pure
end
section
set_option linter.unusedVariables false
set_option linter.unusedSimpArgs false
namespace Go.Proofs.Ytkhfgflcanmefaa.Pure
open Go Go.RowKit Go.Proofs.Ytkhfgflcanmefaa.PAll Go.Proofs.YtkhfgflcanmefaaW.PrintWords Go.Proofs.YtkhfgflcanmefaaW.PrintLast

theorem more_due : ∀ (s : List S32) (n m : Int), n ≤ m → s.Pairwise (fun a b => leD a b = true) → ∃ t, s.filter (fun x => decide (endOf x ≤ m)) = s.filter (fun x => decide (endOf x ≤ n)) ++ t
  | [], n, m, h, hs => ⟨[], rfl⟩
  | x :: s, n, m, h, hs => by
    have hp := List.pairwise_cons.mp hs
    by_cases c : endOf x ≤ n
    · obtain ⟨t, ht⟩ := more_due s n m h hp.2
      refine ⟨t, ?_⟩
      rw [List.filter_cons, if_pos (by simpa using Int.le_trans c h), List.filter_cons, if_pos (by simpa using c), ht, List.cons_append]
    · refine ⟨(x :: s).filter (fun x => decide (endOf x ≤ m)), ?_⟩
      have : (x :: s).filter (fun x => decide (endOf x ≤ n)) = [] := by
        rw [List.filter_eq_nil_iff]
        intro y hy
        rcases List.mem_cons.mp hy with rfl | hy
        · simpa using c
        · have := hp.1 y hy
          unfold leD at this
          simp only [Bool.or_eq_true, Bool.and_eq_true, decide_eq_true_eq] at this
          simp only [decide_eq_true_eq]
          omega
      rw [this, List.nil_append]
def isD (l : List S32) (n id : Int) (p : Nat) : Prop := ∃ h : p < l.length, l[p].f0 = id ∧ l[p].f7 = 3 ∧ endOf l[p] ≤ n
theorem ends_l1 (l : List S32) (hl : l.length ≤ 1000) (x1 : Int) (hw : Aside0 (wrap64 x1 = x1)) (a b : List Int) (i : Nat) (hi : i < a.length) (hil : a.length ≤ 1000) (hb : i < b.length) (he : Aside0 (rd b (i : Int) = rd a (i : Int))) (R : Ev (fun k => prebendlaw19_JobEnds.l0 k x1 l a b ((i + 1 : Nat) : Int)) true) :
    ∀ (d j : Nat) (f : Bool), j + d = l.length → (f = true ∨ ∃ p, j ≤ p ∧ isD l x1 (rd a (i : Int)) p) → Ev (fun k => prebendlaw19_JobEnds.l1 k x1 l a b (i : Int) f (j : Int)) true
  | 0, j, f, h, hf => by
    have ei : wrap64 ((i : Int) + 1) = ((i + 1 : Nat) : Int) := by unfold wrap64; omega
    have hf : f = true := by
      rcases hf with hf | ⟨p, hp, hp2, _⟩
      · exact hf
      · omega
    subst hf
    obtain ⟨K, hK⟩ := R
    refine ⟨K + 1, fun k hk => ?_⟩
    obtain ⟨k, rfl⟩ : ∃ k', k = k' + 1 := ⟨k - 1, by omega⟩
    have hk2 : prebendlaw19_JobEnds.l0 k x1 l a b ((i + 1 : Nat) : Int) = some true := hK k (by omega)
    show prebendlaw19_JobEnds.l1 (k + 1) x1 l a b (i : Int) true (j : Int) = some true
    rw [prebendlaw19_JobEnds.l1.eq_2, if_neg (by omega), if_pos rfl, if_neg (by omega), if_pos (by omega), if_pos (by omega), if_pos (by omega), if_pos he.out, ei, hk2]
  | d + 1, j, f, h, hf => by
    have hj : j < l.length := by omega
    have g1 : (j : Int) < (l.length : Int) := by omega
    have g2 : (0 : Int) ≤ (j : Int) := by omega
    have g3 : (0 : Int) ≤ (i : Int) := by omega
    have g4 : (i : Int) < (a.length : Int) := by omega
    have ej : wrap64 ((j : Int) + 1) = ((j + 1 : Nat) : Int) := by unfold wrap64; omega
    have step : ∀ g : Bool, (g = true ∨ ∃ p, j + 1 ≤ p ∧ isD l x1 (rd a (i : Int)) p) → (∀ k, prebendlaw19_JobEnds.l1 (k + 1) x1 l a b (i : Int) f (j : Int) = prebendlaw19_JobEnds.l1 k x1 l a b (i : Int) g ((j + 1 : Nat) : Int)) → Ev (fun k => prebendlaw19_JobEnds.l1 k x1 l a b (i : Int) f (j : Int)) true := by
      intro g hg hq
      obtain ⟨K, hK⟩ := ends_l1 l hl x1 hw a b i hi hil hb he R d (j + 1) g (by omega) hg
      refine ⟨K + 1, fun k hk => ?_⟩
      obtain ⟨k, rfl⟩ : ∃ k', k = k' + 1 := ⟨k - 1, by omega⟩
      show prebendlaw19_JobEnds.l1 (k + 1) x1 l a b (i : Int) f (j : Int) = some true
      rw [hq]
      exact hK k (by omega)
    cases f with
    | true =>
      refine step true (.inl rfl) (fun k => ?_)
      rw [prebendlaw19_JobEnds.l1.eq_2, if_pos g1, if_pos rfl, ej]
    | false =>
      have later : ∀ (hn : ¬ isD l x1 (rd a (i : Int)) j), ∃ p, j + 1 ≤ p ∧ isD l x1 (rd a (i : Int)) p := by
        intro hn
        rcases hf with hf | ⟨p, hp, hq⟩
        · cases hf
        · refine ⟨p, ?_, hq⟩
          by_cases c : p = j
          · subst c; exact absurd hq hn
          · omega
      by_cases c1 : l[j].f0 = rd a (i : Int)
      · by_cases c2 : l[j].f7 = 3
        · refine step (decide (wrap64 (l[j].f8 + l[j].f3) ≤ x1)) ?_ (fun k => ?_)
          · by_cases c3 : endOf l[j] ≤ x1
            · exact .inl (decide_eq_true c3)
            · exact .inr (later (fun ⟨_, _, _, h3⟩ => c3 h3))
          · rw [prebendlaw19_JobEnds.l1.eq_2, if_pos g1, if_neg (show ¬ (false = true) by decide), if_pos g2, if_pos g3, if_pos g4, rdJ hj, if_pos c1, if_pos c2, ej, hw.out]
        · refine step false (.inr (later (fun ⟨_, _, h2, _⟩ => c2 h2))) (fun k => ?_)
          rw [prebendlaw19_JobEnds.l1.eq_2, if_pos g1, if_neg (show ¬ (false = true) by decide), if_pos g2, if_pos g3, if_pos g4, rdJ hj, if_pos c1, if_neg c2, ej]
      · refine step false (.inr (later (fun ⟨_, h1, _, _⟩ => c1 h1))) (fun k => ?_)
        rw [prebendlaw19_JobEnds.l1.eq_2, if_pos g1, if_neg (show ¬ (false = true) by decide), if_pos g2, if_pos g3, if_pos g4, rdJ hj, if_neg c1, ej]
theorem ends_l0 (l : List S32) (hl : l.length ≤ 1000) (x1 : Int) (hw : wrap64 x1 = x1) (a b : List Int) (hil : a.length ≤ 1000) (hab : a.length ≤ b.length) (he : ∀ i : Nat, i < a.length → rd b (i : Int) = rd a (i : Int)) (hd : ∀ i : Nat, i < a.length → ∃ p, isD l x1 (rd a (i : Int)) p) :
    ∀ (d i : Nat), i + d = a.length → Ev (fun k => prebendlaw19_JobEnds.l0 k x1 l a b (i : Int)) true
  | 0, i, h => by
    obtain ⟨K, hK⟩ := awake_ev
    refine ⟨K + 1, fun k hk => ?_⟩
    obtain ⟨k, rfl⟩ : ∃ k', k = k' + 1 := ⟨k - 1, by omega⟩
    have hk2 : prebendlaw19_awake.f k = some true := hK k (by omega)
    show prebendlaw19_JobEnds.l0 (k + 1) x1 l a b (i : Int) = some true
    rw [prebendlaw19_JobEnds.l0.eq_2, if_neg (by omega), hk2, Option.bind_some, if_pos rfl, decide_eq_true (by omega)]
  | d + 1, i, h => by
    have hi : i < a.length := by omega
    obtain ⟨p, hp⟩ := hd i hi
    obtain ⟨K, hK⟩ := ends_l1 l hl x1 ⟨hw⟩ a b i hi hil (by omega) ⟨he i hi⟩ (ends_l0 l hl x1 hw a b hil hab he hd d (i + 1) (by omega)) l.length 0 false (by omega) (.inr ⟨p, by omega, hp⟩)
    refine ⟨K + 1, fun k hk => ?_⟩
    obtain ⟨k, rfl⟩ : ∃ k', k = k' + 1 := ⟨k - 1, by omega⟩
    have hk2 : prebendlaw19_JobEnds.l1 k x1 l a b (i : Int) false ((0 : Nat) : Int) = some true := hK k (by omega)
    show prebendlaw19_JobEnds.l0 (k + 1) x1 l a b (i : Int) = some true
    rw [prebendlaw19_JobEnds.l0.eq_2, if_pos (by omega)]
    exact hk2
theorem u16_bd (x : Int) (h : (Lit.int .u16 x).wf = true) : 0 ≤ x ∧ x ≤ 65535 := by
  simp only [Lit.wf, Bool.and_eq_true, decide_eq_true_eq] at h
  have e1 : IntKind.u16.min = 0 := by decide +kernel
  have e2 : IntKind.u16.max = 65535 := by decide +kernel
  omega
theorem rd_eq {a : List Int} {i : Nat} (h : i < a.length) : rd a (i : Int) = a[i] := by simp [rd, List.getD_eq_getElem?_getD, h]
theorem JobEnds : prebendlaw19_JobEnds.Pure := by
  intro l0 a1 a2 _ w1 w2
  have b1 := u16_bd a1 w1
  have b2 := u16_bd a2 w2
  have e1 : wrap64 a1 = a1 := by unfold wrap64; omega
  have e2 : wrap64 a2 = a2 := by unfold wrap64; omega
  have e3 : wrap64 (a1 + a2) = a1 + a2 := by unfold wrap64; omega
  obtain ⟨l, ⟨K1, hK1⟩, hl⟩ := held_ev l0
  obtain ⟨K2, hK2⟩ := due_ev l (by omega) a1
  obtain ⟨K3, hK3⟩ := due_ev l (by omega) (a1 + a2)
  have hs := isort_srt tpD (rs l)
  obtain ⟨t, ht⟩ := more_due (isort leD (rs l)) a1 (a1 + a2) (by omega) hs
  have hb : due l (a1 + a2) = due l a1 ++ t.map (·.f0) := by unfold due; rw [ht, List.map_append]
  have la := due_len l a1
  obtain ⟨K4, hK4⟩ := ends_l0 l (by omega) a1 e1 (due l a1) (due l (a1 + a2)) (by omega) (by rw [hb, List.length_append]; omega)
    (fun i hi => by
      rw [rd_eq hi, rd_eq (by rw [hb, List.length_append]; omega)]
      have : (due l a1 ++ t.map (·.f0))[i]'(by rw [List.length_append]; omega) = (due l a1)[i] := List.getElem_append_left hi
      simp only [hb]; exact this)
    (fun i hi => by
      rw [rd_eq hi]
      have hm := List.getElem_mem hi
      generalize (due l a1)[i] = id at *
      unfold due at hm
      obtain ⟨x, hx, rfl⟩ := List.mem_map.mp hm
      obtain ⟨hx1, hx2⟩ := List.mem_filter.mp hx
      have hx3 := (isort_perm (rs l)).mem_iff.mp hx1
      obtain ⟨hx4, hx5⟩ := List.mem_filter.mp hx3
      obtain ⟨p, hp, rfl⟩ := List.mem_iff_getElem.mp hx4
      exact ⟨p, hp, rfl, by simpa using hx5, by simpa using hx2⟩)
    (due l a1).length 0 (by omega)
  refine ⟨K1 + K2 + K3 + K4, ?_⟩
  have h1 : prebendref19_Held.f (K1 + K2 + K3 + K4) l0 = some l := hK1 _ (by omega)
  have h2 : job_Due.f (K1 + K2 + K3 + K4) l a1 = some _ := hK2 _ (by omega)
  have h3 : job_Due.f (K1 + K2 + K3 + K4) l (a1 + a2) = some _ := hK3 _ (by omega)
  have h4 := hK4 (K1 + K2 + K3 + K4) (by omega)
  unfold prebendlaw19_JobEnds.f
  rw [h1, Option.bind_some, e1, h2, Option.bind_some, e2, e3, h3, Option.bind_some]
  exact h4
end Go.Proofs.Ytkhfgflcanmefaa.Pure
end
section
namespace Go.Proofs.Ytkhfgflcanmefaa.Rd
open Go.ChangeShapes Go.WideShapes Go.Deep Go.RowKit Go.Proofs.YtkhfgflcanmefaaW.PrintWords
set_option linter.unusedVariables false
def Rds {α : Type} (P : Program) (d : Kd α) (T : TypeId) (good : α → Prop) : Prop :=
  ∀ (H : Type) (enc : TypeId × Value → H) (w : World) (base : Nat) (spare : Nat → Bool) (held : Bool) (n : Nat) (cs : List Value) (y : DataW H × List MemPlace),
    DataW.trod enc P w base spare held n T cs = some y → ∃ x, d.K w x cs ∧ good x
theorem rds_int {P : Program} {T : TypeId} {k : IntKind} (ht : P.underlying T = some (.int k)) : Rds P (Kd.int k) T (fun x => (Lit.int k x).wf = true) := by
  intro H enc w base spare held n cs y h
  obtain ⟨m, rfl, _, hw⟩ := DataW.trod_int ht h
  exact ⟨m, rfl, hw⟩
theorem rds_slice {α : Type} {P : Program} {d : Kd α} {T e : TypeId} {good : α → Prop} (ht : P.underlying T = some (.slice e)) (hc : P.cellsOf e = d.sz) (hr : Rds P d e good) :
    Rds P (Kd.slice e d) T (fun xs => xs.length ≤ maxLen ∧ ∀ x ∈ xs, good x) := by
  intro H enc w base spare held n cs y h
  rcases open_slice ht h with ⟨rfl, _⟩ | ⟨a, len, cap, m, n', D, Pl, rfl, hb, hl, hm, hmm, _, hi⟩
  · exact ⟨[], ⟨none, 0, rfl, Nat.le_refl _, rfl, by simp, fun h0 => absurd h0 (by simp)⟩, by simp, by simp⟩
  · have hlm : len ≤ m := by rw [hmm]; split <;> omega
    have step : ∀ l, l ≤ len → ∃ xs : List α, xs.length = l ∧ (∀ x ∈ xs, good x) ∧ ∀ j p, xs[j]? = some p → ∃ c, w.cells? base (a.add (j * d.sz)) d.sz = some c ∧ d.K w p c := by
      intro l
      induction l with
      | zero => intro _; exact ⟨[], rfl, by simp, by simp⟩
      | succ l ih =>
        intro hl1
        obtain ⟨xs, hx, hg, hj⟩ := ih (by omega)
        obtain ⟨c, h1, h2⟩ := hi l (by omega)
        obtain ⟨x, k, g⟩ := hr _ _ _ _ _ _ _ _ _ h2
        rw [hc] at h1
        refine ⟨xs ++ [x], by simp [hx], ?_, ?_⟩
        · intro z hz
          rcases List.mem_append.1 hz with hz | hz
          · exact hg z hz
          · rw [List.mem_singleton.1 hz]; exact g
        · intro j p hp
          rcases Nat.lt_or_ge j xs.length with hlt | hge
          · rw [List.getElem?_append_left hlt] at hp; exact hj j p hp
          · have hjl : j = l := by
              have := (List.getElem?_eq_some_iff.1 hp).1
              rw [List.length_append, List.length_singleton] at this
              omega
            subst hjl
            rw [List.getElem?_append_right hge, hx, Nat.sub_self] at hp
            simp at hp
            subst hp
            exact ⟨c, h1, k⟩
    obtain ⟨xs, hx, hg, hj⟩ := step len (Nat.le_refl _)
    refine ⟨xs, ⟨some a, cap, by rw [hx], by omega, rfl, by rw [hx]; unfold maxLen at hm; omega, fun _ => ⟨a, rfl, fun j p hp => ?_⟩⟩, by rw [hx]; omega, hg⟩
    obtain ⟨c, h1, k⟩ := hj j p hp
    refine ⟨c, d.K_len k, k, fun i u hu => ?_⟩
    obtain ⟨_, hcl, hat⟩ := World.cells?_some h1
    have hil : i < d.sz := by have := (List.getElem?_eq_some_iff.1 hu).1; omega
    rw [← Go.Deep.add_add, hat i hil, hu]
theorem pair_mk {α β : Type} {a : Kd α} {b : Kd β} {w : World} {x : α} {y : β} {cs : List Value} {o : Nat} (h1 : a.K w x ((cs.drop o).take a.sz)) (h2 : b.K w y (cs.drop (o + a.sz))) : (Kd.pair a b).K w (x, y) (cs.drop o) :=
  ⟨_, _, by rw [← List.drop_drop]; exact (List.take_append_drop a.sz (cs.drop o)).symm, h1, h2⟩
theorem last_mk {α : Type} {a : Kd α} {w : World} {x : α} {cs : List Value} {o : Nat} (hl : cs.length = o + a.sz) (h1 : a.K w x ((cs.drop o).take a.sz)) : a.K w x (cs.drop o) := by
  rwa [List.take_of_length_le (by rw [List.length_drop]; omega)] at h1
theorem field {H : Type} {enc : TypeId × Value → H} {P : Program} {w : World} {base : Nat} {spare : Nat → Bool} {held : Bool} {n : Nat} {cs : List Value} {fs : Array Field} {xs : List (DataW H × List MemPlace)} (hx : xs.length = fs.size)
    (hf : ∀ (i : Nat) (f : Field), fs[i]? = some f → DataW.trod enc P w base spare held n f.type ((cs.drop f.offset).take (P.cellsOf f.type)) = xs[i]?)
    (i : Nat) (f : Field) (hi : fs[i]? = some f) {α : Type} {d : Kd α} {good : α → Prop} {o T : Nat} (ho : f.offset = o) (hT : f.type = T) (hc : P.cellsOf T = d.sz) (hr : Rds P d T good) : ∃ x, d.K w x ((cs.drop o).take d.sz) ∧ good x := by
  have h := hf i f hi
  have hlt : i < xs.length := by rw [hx]; exact (Array.getElem?_eq_some_iff.1 hi).1
  rw [List.getElem?_eq_getElem hlt, ho, hT, hc] at h
  exact hr _ _ _ _ _ _ _ _ _ h
end Go.Proofs.Ytkhfgflcanmefaa.Rd
end
section
namespace Go.Proofs.Ytkhfgflcanmefaa.jobEnds
open Go.ChangeShapes Go.WideShapes Go.ChangeAt Go.RowKit Go.Proofs.YtkhfgflcanmefaaW.PrintWords Go.Proofs.Ytkhfgflcanmefaa.PAll
open Go.ChangeMaps (open_string shut_string)
set_option linter.unusedVariables false
theorem own : ownKnob Try.prog.godebug = none := by kernel_rfl
theorem laidOut : laidOutB Try.prog = true := by kernel_rfl
theorem rdsSH {P : Program} {T e : TypeId} (ht : P.underlying T = some (.slice e)) : Rd.Rds P kSH T (fun _ => True) := by
  intro H enc w base spare held n cs y h
  rcases Go.Deep.open_slice ht h with ⟨rfl, _⟩ | ⟨a, len, cap, m, n', D, Pl, rfl, _⟩
  · exact ⟨⟨none, 0, 0⟩, rfl, trivial⟩
  · exact ⟨⟨some a, len, cap⟩, rfl, trivial⟩
theorem rds32 : Rd.Rds Try.prog k32 32 g32 := by
  intro H enc w base spare held n cs y h
  obtain ⟨xs, m, _, _, hlen, hxl, hf⟩ := DataW.trod_struct Try.underlying32 h
  have hl : cs.length = 12 := hlen.trans (by kernel_rfl)
  obtain ⟨x0, h0, g0_⟩ := Rd.field hxl hf 0 _ rfl (d := (Kd.int .i64)) (good := (fun x => (Lit.int .i64 x).wf = true)) (o := 0) (T := 3) rfl rfl (by kernel_rfl) (Rd.rds_int Try.underlying3)
  obtain ⟨x1, h1, g1_⟩ := Rd.field hxl hf 1 _ rfl (d := (Kd.int .i64)) (good := (fun x => (Lit.int .i64 x).wf = true)) (o := 1) (T := 3) rfl rfl (by kernel_rfl) (Rd.rds_int Try.underlying3)
  obtain ⟨x2, h2, g2_⟩ := Rd.field hxl hf 2 _ rfl (d := (Kd.int .i64)) (good := (fun x => (Lit.int .i64 x).wf = true)) (o := 2) (T := 3) rfl rfl (by kernel_rfl) (Rd.rds_int Try.underlying3)
  obtain ⟨x3, h3, g3_⟩ := Rd.field hxl hf 3 _ rfl (d := (Kd.int .i64)) (good := (fun x => (Lit.int .i64 x).wf = true)) (o := 3) (T := 3) rfl rfl (by kernel_rfl) (Rd.rds_int Try.underlying3)
  obtain ⟨x4, h4, g4_⟩ := Rd.field hxl hf 4 _ rfl (d := (Kd.int .i64)) (good := (fun x => (Lit.int .i64 x).wf = true)) (o := 4) (T := 3) rfl rfl (by kernel_rfl) (Rd.rds_int Try.underlying3)
  obtain ⟨x5, h5, g5_⟩ := Rd.field hxl hf 5 _ rfl (d := (Kd.int .i64)) (good := (fun x => (Lit.int .i64 x).wf = true)) (o := 5) (T := 3) rfl rfl (by kernel_rfl) (Rd.rds_int Try.underlying3)
  obtain ⟨x6, h6, g6_⟩ := Rd.field hxl hf 6 _ rfl (d := (Kd.int .i64)) (good := (fun x => (Lit.int .i64 x).wf = true)) (o := 6) (T := 3) rfl rfl (by kernel_rfl) (Rd.rds_int Try.underlying3)
  obtain ⟨x7, h7, g7_⟩ := Rd.field hxl hf 7 _ rfl (d := (Kd.int .i64)) (good := (fun x => (Lit.int .i64 x).wf = true)) (o := 7) (T := 3) rfl rfl (by kernel_rfl) (Rd.rds_int Try.underlying3)
  obtain ⟨x8, h8, g8_⟩ := Rd.field hxl hf 8 _ rfl (d := (Kd.int .i64)) (good := (fun x => (Lit.int .i64 x).wf = true)) (o := 8) (T := 3) rfl rfl (by kernel_rfl) (Rd.rds_int Try.underlying3)
  obtain ⟨x9, h9, g9_⟩ := Rd.field hxl hf 9 _ rfl (d := (Kd.int .i64)) (good := (fun x => (Lit.int .i64 x).wf = true)) (o := 9) (T := 3) rfl rfl (by kernel_rfl) (Rd.rds_int Try.underlying3)
  obtain ⟨x10, h10, g10_⟩ := Rd.field hxl hf 10 _ rfl (d := (Kd.int .i64)) (good := (fun x => (Lit.int .i64 x).wf = true)) (o := 10) (T := 3) rfl rfl (by kernel_rfl) (Rd.rds_int Try.underlying3)
  obtain ⟨x11, h11, g11_⟩ := Rd.field hxl hf 11 _ rfl (d := kSH) (good := (fun x => True)) (o := 11) (T := 30) rfl rfl (by kernel_rfl) (rdsSH Try.underlying30)
  have hK := (Rd.pair_mk (o := 0) h0 (Rd.pair_mk (o := 1) h1 (Rd.pair_mk (o := 2) h2 (Rd.pair_mk (o := 3) h3 (Rd.pair_mk (o := 4) h4 (Rd.pair_mk (o := 5) h5 (Rd.pair_mk (o := 6) h6 (Rd.pair_mk (o := 7) h7 (Rd.pair_mk (o := 8) h8 (Rd.pair_mk (o := 9) h9 (Rd.pair_mk (o := 10) h10 (Rd.last_mk (a := kSH) (o := 11) hl h11))))))))))))
  exact ⟨⟨x0, x1, x2, x3, x4, x5, x6, x7, x8, x9, x10, x11⟩, (by rw [List.drop_zero] at hK; exact hK), ⟨g0_, g1_, g2_, g3_, g4_, g5_, g6_, g7_, g8_, g9_, g10_, g11_⟩⟩
set_option maxRecDepth 100000 in
theorem lifted (os : Os) (started : os.Started) (H : Type) (enc : TypeId × Value → H) :
    ReturnsInHanded {} Try.checked os 7 .any (Rows.jobEndsSpec.pre6 enc Try.prog Try.f7 Rows.jobEndsRow.domain false) (Rows.jobEndsSpec.post enc Try.prog Try.f7 false true false false) := by
  refine returnsInHanded_of_change_sized (C := Try.checked) own started (by kernel_rfl) Try.func7
    (ChangeSpec.witness6 (enc := enc) (C := Try.checked) false ⟨#[], #[.slice none 0 0, .int .u16 0, .int .u16 0], []⟩ 8 (by kernel_rfl) (by kernel_rfl) (by kernel_rfl) (by kernel_rfl)) ?_
  intro W base args ds gs before hval0 hW hcnd hsz0 _
  have hval : ∀ (j : Nat) t v, Try.f7.params[j]? = some t → args[j]? = some v → Value.okWide Try.prog W .any base t v := hval0
  have hW' := hW
  obtain ⟨p, q, hA0, hV, rfl, hfz, hnd⟩ := hW
  have hA : DataW.TrodAll enc Try.prog W 0 (fun _ => true) true Try.f7.params.toList args.toList ds p := hA0
  rw [Try.params7] at hA hval
  obtain ⟨v0, vs0, d0, ds0, p0, q0, hargs, rfl, rfl, h0, r0⟩ := trodAll_cons hA
  obtain ⟨v1, vs1, d1, ds1, p1, q1, rfl, rfl, rfl, h1, r1⟩ := trodAll_cons r0
  obtain ⟨v2, vs2, d2, ds2, p2, q2, rfl, rfl, rfl, h2, r2⟩ := trodAll_cons r1
  obtain ⟨rfl, rfl, rfl⟩ := trodAll_nil r2
  obtain rfl : args = #[v0, v1, v2] := by cases args; simp_all
  obtain ⟨rfl, rfl⟩ := trodVars_none hV
  obtain ⟨a0, len0, cap0, rfl⟩ := okWide_slice Try.underlying22 (hval 0 22 v0 rfl rfl)
  have k0 := h0
  have lt0 : ∀ x ∈ p0, x.block < W.heap.size := by obtain ⟨m, hm⟩ := k0; exact DataW.trod_lt m _ _ _ hm
  obtain ⟨l0, ⟨A0, c0, he0, hl0, hC0⟩, g0_⟩ : ∃ xs, ((Kd.slice 32 k32)).K W xs [.slice a0 len0 cap0] ∧ (fun x => (x.length ≤ maxLen ∧ ∀ y ∈ x, g32 y)) xs := by
    obtain ⟨fuel, hf⟩ := h0
    exact (Rd.rds_slice (P := Try.prog) (T := 22) Try.underlying22 (by kernel_rfl) rds32) _ _ _ _ _ _ _ _ _ hf
  obtain ⟨rfl, rfl, rfl⟩ : a0 = A0 ∧ len0 = l0.length ∧ cap0 = c0 := by simpa using he0
  obtain ⟨a1, rfl, rfl, rfl, w1⟩ := open_int Try.underlying47 (hval 1 47 v1 rfl rfl) h1
  obtain ⟨a2, rfl, rfl, rfl, w2⟩ := open_int Try.underlying47 (hval 2 47 v2 rfl rfl) h2
  clear hA0 hval0 hsz0
  refine (PAll.prebendlaw19_JobEnds.walk Pure.JobEnds _ _ l0 a1 a2 W hC0 hl0 g0_ w1 w2).mono fun e W' ⟨he, bel⟩ => ?_
  subst he
  exact ⟨_, rfl, _, _, _, [], _, [], hW', trodAll_mk1 (shut_bool Try.underlying4 _), (trodAll_cons_mk (Below.trod laidOut (by kernel_rfl) (of_decide_eq_true (by kernel_rfl)) k0 bel lt0) (trodAll_cons_mk (shut_int Try.underlying47 w1) (trodAll_cons_mk (shut_int Try.underlying47 w2) trodAll_mk0))), rfl, bel.frame _, fun h => by cases h⟩
theorem over : Rows.jobEndsRow.holds Try.pinned (OpenSpec.ofChange Rows.jobEndsSpec) :=
  OpenClaim.holds_of_wide 7 Try.f7 rfl rfl rfl rfl rfl rfl rfl ⟨rfl, rfl, rfl, rfl, rfl⟩ rfl rfl rfl rfl rfl (by kernel_rfl) Try.func7 (by kernel_rfl)
    (of_decide_eq_true (by kernel_rfl)) (by unfold Func.isWrapper; first | (rw [if_pos (by decide +kernel)]; kernel_rfl) | (rw [if_neg (by decide +kernel)]; exact ⟨rfl, rfl⟩))
    (fun os started H enc _ => lifted os started H enc)
theorem proved : Rows.JobEndsSaid := over
#print axioms proved
end Go.Proofs.Ytkhfgflcanmefaa.jobEnds
namespace Go.Proofs.Ytkhfgflcanmefaa
/-- The row, under a short name, for the claim. -/
theorem jobEnds_holds : Rows.JobEndsSaid := jobEnds.proved
end Go.Proofs.Ytkhfgflcanmefaa
end
