/- Words, plain functions and contracts of the functions that the law of this claim reaches; no conditions. -/
import Derived.Test.YtkhfgflcanmefaaBJobReads3
section
namespace Go.Proofs.Ytkhfgflcanmefaa.PAll
open Go.RowKit Go.Proofs.YtkhfgflcanmefaaW.PrintWords Go.Proofs.YtkhfgflcanmefaaW.PrintLast Go.Proofs.YtkhfgflcanmefaaW.PrintMore
attribute [local go_sem] max2_int min2_int max_two min_two max_three min_three max_four min_four   -- for this text's walks alone
set_option linter.unusedVariables false
set_option linter.unusedSimpArgs false

def prebendlaw19_awake.f (k : Nat)  : Option (Bool) := (some (([(⟨4, 0, 0, 0, 0, 0, 0, 1, 0, 0, 0, SH.nil⟩ : S32), (⟨3, 0, 2, 10, 0, 0, 0, 3, 5, 9, 0, SH.nil⟩ : S32)] : List (S32)) : List (S32))).bind fun y321 => ((job_Good.f 3 0 2 10 0 0 0 3 5 9 0 SH.nil).bind fun t324 => (if t324 = true then ((job_Find.f k y321 3).bind fun t325 => (if t325 = 1 then ((job_Find.f k y321 5).bind fun t326 => (if t326 = (-1) then ((job_Mask.f k y321).bind fun t327 => (if t327 = 9 then ((job_Due.f k y321 15).bind fun t328 => ((prebendref01_Ints.f k t328 (([3] : List Int))).bind fun t334 => (if t334 = true then ((job_Due.f k y321 14).bind fun t335 => (if (t335.length : Int) = 0 then ((job_Boxes.f k y321).bind fun t338 => (if (t338.length : Int) = 2 then ((job_Busy.f k y321).bind fun t341 => ((prebendref19_SameBusy.f k t341 (([(⟨15, 2⟩ : S59)] : List (S59)))).bind fun t347 => (some t347))) else (some false))) else (some false))) else (some false)))) else (some false))) else (some false))) else (some false))) else (some false)))
theorem prebendlaw19_awake.mono : ∀ k, LeO (prebendlaw19_awake.f k ) (prebendlaw19_awake.f (k + 1) ) := by
 intro  k
 unfold prebendlaw19_awake.f
 repeat' first
   | (with_reducible exact job_Boxes.mono _ _)
   | (with_reducible exact job_Busy.mono _ _)
   | (with_reducible exact job_Due.mono _ _ _)
   | (with_reducible exact job_Find.mono _ _ _)
   | (with_reducible exact job_Mask.mono _ _)
   | (with_reducible exact prebendref01_Ints.mono _ _ _)
   | (with_reducible exact prebendref19_SameBusy.mono _ _ _)
   | (with_reducible exact LeO.refl _)
   | (with_reducible exact LeO.none _)
   | (with_reducible refine LeO.ite ?_ ?_)
   | (with_reducible refine LeO.bind ?_ (fun _ => ?_))
   | exact job_Boxes.mono _ _
   | exact job_Busy.mono _ _
   | exact job_Due.mono _ _ _
   | exact job_Find.mono _ _ _
   | exact job_Mask.mono _ _
   | exact prebendref01_Ints.mono _ _ _
   | exact prebendref19_SameBusy.mono _ _ _
   | exact LeO.none _
   | refine LeO.ite ?_ ?_
   | refine LeO.bind ?_ (fun _ => ?_)
set_option maxHeartbeats 8000000 in
set_option maxRecDepth 100000 in
theorem prebendlaw19_awake.calls (k : Nat)  (w : World) (h : prebendlaw19_awake.f k  = some true) :
  Calls Try.prog 16 #[] w fun e w' => e = .returned (.bool true) ∧ Below w.heap.size w w' := by
 have hu32 := Try.underlying32
 have hu59 := Try.underlying59
 have HB := Aside0.mk (Below.refl w.heap.size w)
 have H : ((some (([(⟨4, 0, 0, 0, 0, 0, 0, 1, 0, 0, 0, SH.nil⟩ : S32), (⟨3, 0, 2, 10, 0, 0, 0, 3, 5, 9, 0, SH.nil⟩ : S32)] : List (S32)) : List (S32))).bind fun y321 => ((job_Good.f 3 0 2 10 0 0 0 3 5 9 0 SH.nil).bind fun t324 => (if t324 = true then ((job_Find.f k y321 3).bind fun t325 => (if t325 = 1 then ((job_Find.f k y321 5).bind fun t326 => (if t326 = (-1) then ((job_Mask.f k y321).bind fun t327 => (if t327 = 9 then ((job_Due.f k y321 15).bind fun t328 => ((prebendref01_Ints.f k t328 (([3] : List Int))).bind fun t334 => (if t334 = true then ((job_Due.f k y321 14).bind fun t335 => (if (t335.length : Int) = 0 then ((job_Boxes.f k y321).bind fun t338 => (if (t338.length : Int) = 2 then ((job_Busy.f k y321).bind fun t341 => ((prebendref19_SameBusy.f k t341 (([(⟨15, 2⟩ : S59)] : List (S59)))).bind fun t347 => (some t347))) else (some false))) else (some false))) else (some false)))) else (some false))) else (some false))) else (some false))) else (some false)))) = some true := h
 clear h
 obtain ⟨y321, hy321⟩ : ∃ y_ : List (S32), y_ = (([(⟨4, 0, 0, 0, 0, 0, 0, 1, 0, 0, 0, SH.nil⟩ : S32), (⟨3, 0, 2, 10, 0, 0, 0, 3, 5, 9, 0, SH.nil⟩ : S32)] : List (S32))) := ⟨_, rfl⟩
 replace H : ((job_Good.f 3 0 2 10 0 0 0 3 5 9 0 SH.nil).bind fun t324 => (if t324 = true then ((job_Find.f k y321 3).bind fun t325 => (if t325 = 1 then ((job_Find.f k y321 5).bind fun t326 => (if t326 = (-1) then ((job_Mask.f k y321).bind fun t327 => (if t327 = 9 then ((job_Due.f k y321 15).bind fun t328 => ((prebendref01_Ints.f k t328 (([3] : List Int))).bind fun t334 => (if t334 = true then ((job_Due.f k y321 14).bind fun t335 => (if (t335.length : Int) = 0 then ((job_Boxes.f k y321).bind fun t338 => (if (t338.length : Int) = 2 then ((job_Busy.f k y321).bind fun t341 => ((prebendref19_SameBusy.f k t341 (([(⟨15, 2⟩ : S59)] : List (S59)))).bind fun t347 => (some t347))) else (some false))) else (some false))) else (some false)))) else (some false))) else (some false))) else (some false))) else (some false))) = some true := mH hy321 H
 have Ny321 := Aside0.mk hy321
 clear hy321
 replace H := Option.bind_eq_some_iff.mp H
 obtain ⟨t324, A10, H⟩ := H
 replace H : (if t324 = true then ((job_Find.f k y321 3).bind fun t325 => (if t325 = 1 then ((job_Find.f k y321 5).bind fun t326 => (if t326 = (-1) then ((job_Mask.f k y321).bind fun t327 => (if t327 = 9 then ((job_Due.f k y321 15).bind fun t328 => ((prebendref01_Ints.f k t328 (([3] : List Int))).bind fun t334 => (if t334 = true then ((job_Due.f k y321 14).bind fun t335 => (if (t335.length : Int) = 0 then ((job_Boxes.f k y321).bind fun t338 => (if (t338.length : Int) = 2 then ((job_Busy.f k y321).bind fun t341 => ((prebendref19_SameBusy.f k t341 (([(⟨15, 2⟩ : S59)] : List (S59)))).bind fun t347 => (some t347))) else (some false))) else (some false))) else (some false)))) else (some false))) else (some false))) else (some false))) else (some false)) = some true := H
 have A1 := Aside0.mk A10
 clear A10
 by_cases c2 : t324 = true
 ·subst c2
  have H1 : ((job_Find.f k y321 3).bind fun t325 => (if t325 = 1 then ((job_Find.f k y321 5).bind fun t326 => (if t326 = (-1) then ((job_Mask.f k y321).bind fun t327 => (if t327 = 9 then ((job_Due.f k y321 15).bind fun t328 => ((prebendref01_Ints.f k t328 (([3] : List Int))).bind fun t334 => (if t334 = true then ((job_Due.f k y321 14).bind fun t335 => (if (t335.length : Int) = 0 then ((job_Boxes.f k y321).bind fun t338 => (if (t338.length : Int) = 2 then ((job_Busy.f k y321).bind fun t341 => ((prebendref19_SameBusy.f k t341 (([(⟨15, 2⟩ : S59)] : List (S59)))).bind fun t347 => (some t347))) else (some false))) else (some false))) else (some false)))) else (some false))) else (some false))) else (some false))) = some true := by rw [if_pos rfl] at H; exact H
  clear H
  have H := H1
  clear H1
  replace H := Option.bind_eq_some_iff.mp H
  obtain ⟨t325, A30, H⟩ := H
  replace H : (if t325 = 1 then ((job_Find.f k y321 5).bind fun t326 => (if t326 = (-1) then ((job_Mask.f k y321).bind fun t327 => (if t327 = 9 then ((job_Due.f k y321 15).bind fun t328 => ((prebendref01_Ints.f k t328 (([3] : List Int))).bind fun t334 => (if t334 = true then ((job_Due.f k y321 14).bind fun t335 => (if (t335.length : Int) = 0 then ((job_Boxes.f k y321).bind fun t338 => (if (t338.length : Int) = 2 then ((job_Busy.f k y321).bind fun t341 => ((prebendref19_SameBusy.f k t341 (([(⟨15, 2⟩ : S59)] : List (S59)))).bind fun t347 => (some t347))) else (some false))) else (some false))) else (some false)))) else (some false))) else (some false))) else (some false)) = some true := H
  have A3 := Aside0.mk A30
  clear A30
  by_cases c4 : t325 = 1
  ·rw [if_pos c4] at H
   have c4b0 : (t325 == 1) = true := beq_iff_eq.mpr c4
   have c4b1 : (t325 != 1) = false := bne_eq_false_iff_eq.mpr c4
   clear c4
   replace H := Option.bind_eq_some_iff.mp H
   obtain ⟨t326, A50, H⟩ := H
   replace H : (if t326 = (-1) then ((job_Mask.f k y321).bind fun t327 => (if t327 = 9 then ((job_Due.f k y321 15).bind fun t328 => ((prebendref01_Ints.f k t328 (([3] : List Int))).bind fun t334 => (if t334 = true then ((job_Due.f k y321 14).bind fun t335 => (if (t335.length : Int) = 0 then ((job_Boxes.f k y321).bind fun t338 => (if (t338.length : Int) = 2 then ((job_Busy.f k y321).bind fun t341 => ((prebendref19_SameBusy.f k t341 (([(⟨15, 2⟩ : S59)] : List (S59)))).bind fun t347 => (some t347))) else (some false))) else (some false))) else (some false)))) else (some false))) else (some false)) = some true := H
   have A5 := Aside0.mk A50
   clear A50
   by_cases c6 : t326 = (-1)
   ·rw [if_pos c6] at H
    have c6b0 : (t326 == (-1)) = true := beq_iff_eq.mpr c6
    have c6b1 : (t326 != (-1)) = false := bne_eq_false_iff_eq.mpr c6
    clear c6
    replace H := Option.bind_eq_some_iff.mp H
    obtain ⟨t327, A70, H⟩ := H
    replace H : (if t327 = 9 then ((job_Due.f k y321 15).bind fun t328 => ((prebendref01_Ints.f k t328 (([3] : List Int))).bind fun t334 => (if t334 = true then ((job_Due.f k y321 14).bind fun t335 => (if (t335.length : Int) = 0 then ((job_Boxes.f k y321).bind fun t338 => (if (t338.length : Int) = 2 then ((job_Busy.f k y321).bind fun t341 => ((prebendref19_SameBusy.f k t341 (([(⟨15, 2⟩ : S59)] : List (S59)))).bind fun t347 => (some t347))) else (some false))) else (some false))) else (some false)))) else (some false)) = some true := H
    have A7 := Aside0.mk A70
    clear A70
    by_cases c8 : t327 = 9
    ·rw [if_pos c8] at H
     have c8b0 : (t327 == 9) = true := beq_iff_eq.mpr c8
     have c8b1 : (t327 != 9) = false := bne_eq_false_iff_eq.mpr c8
     clear c8
     replace H := Option.bind_eq_some_iff.mp H
     obtain ⟨t328, A90, H⟩ := H
     replace H : ((prebendref01_Ints.f k t328 (([3] : List Int))).bind fun t334 => (if t334 = true then ((job_Due.f k y321 14).bind fun t335 => (if (t335.length : Int) = 0 then ((job_Boxes.f k y321).bind fun t338 => (if (t338.length : Int) = 2 then ((job_Busy.f k y321).bind fun t341 => ((prebendref19_SameBusy.f k t341 (([(⟨15, 2⟩ : S59)] : List (S59)))).bind fun t347 => (some t347))) else (some false))) else (some false))) else (some false))) = some true := H
     have A9 := Aside0.mk A90
     clear A90
     obtain ⟨y331, hy331⟩ : ∃ y_ : List Int, y_ = (([3] : List Int)) := ⟨_, rfl⟩
     replace H : ((prebendref01_Ints.f k t328 y331).bind fun t334 => (if t334 = true then ((job_Due.f k y321 14).bind fun t335 => (if (t335.length : Int) = 0 then ((job_Boxes.f k y321).bind fun t338 => (if (t338.length : Int) = 2 then ((job_Busy.f k y321).bind fun t341 => ((prebendref19_SameBusy.f k t341 (([(⟨15, 2⟩ : S59)] : List (S59)))).bind fun t347 => (some t347))) else (some false))) else (some false))) else (some false))) = some true := mH hy331 H
     have Ny331 := Aside0.mk hy331
     clear hy331
     replace H := Option.bind_eq_some_iff.mp H
     obtain ⟨t334, A100, H⟩ := H
     replace H : (if t334 = true then ((job_Due.f k y321 14).bind fun t335 => (if (t335.length : Int) = 0 then ((job_Boxes.f k y321).bind fun t338 => (if (t338.length : Int) = 2 then ((job_Busy.f k y321).bind fun t341 => ((prebendref19_SameBusy.f k t341 (([(⟨15, 2⟩ : S59)] : List (S59)))).bind fun t347 => (some t347))) else (some false))) else (some false))) else (some false)) = some true := H
     have A10 := Aside0.mk A100
     clear A100
     by_cases c11 : t334 = true
     ·subst c11
      have H1 : ((job_Due.f k y321 14).bind fun t335 => (if (t335.length : Int) = 0 then ((job_Boxes.f k y321).bind fun t338 => (if (t338.length : Int) = 2 then ((job_Busy.f k y321).bind fun t341 => ((prebendref19_SameBusy.f k t341 (([(⟨15, 2⟩ : S59)] : List (S59)))).bind fun t347 => (some t347))) else (some false))) else (some false))) = some true := by rw [if_pos rfl] at H; exact H
      clear H
      have H := H1
      clear H1
      replace H := Option.bind_eq_some_iff.mp H
      obtain ⟨t335, A120, H⟩ := H
      replace H : (if (t335.length : Int) = 0 then ((job_Boxes.f k y321).bind fun t338 => (if (t338.length : Int) = 2 then ((job_Busy.f k y321).bind fun t341 => ((prebendref19_SameBusy.f k t341 (([(⟨15, 2⟩ : S59)] : List (S59)))).bind fun t347 => (some t347))) else (some false))) else (some false)) = some true := H
      have A12 := Aside0.mk A120
      clear A120
      by_cases c13 : (t335.length : Int) = 0
      ·rw [if_pos c13] at H
       have c13b0 : ((t335.length : Int) == 0) = true := beq_iff_eq.mpr c13
       have c13b1 : ((t335.length : Int) != 0) = false := bne_eq_false_iff_eq.mpr c13
       clear c13
       replace H := Option.bind_eq_some_iff.mp H
       obtain ⟨t338, A140, H⟩ := H
       replace H : (if (t338.length : Int) = 2 then ((job_Busy.f k y321).bind fun t341 => ((prebendref19_SameBusy.f k t341 (([(⟨15, 2⟩ : S59)] : List (S59)))).bind fun t347 => (some t347))) else (some false)) = some true := H
       have A14 := Aside0.mk A140
       clear A140
       by_cases c15 : (t338.length : Int) = 2
       ·rw [if_pos c15] at H
        have c15b0 : ((t338.length : Int) == 2) = true := beq_iff_eq.mpr c15
        have c15b1 : ((t338.length : Int) != 2) = false := bne_eq_false_iff_eq.mpr c15
        clear c15
        replace H := Option.bind_eq_some_iff.mp H
        obtain ⟨t341, A160, H⟩ := H
        replace H : ((prebendref19_SameBusy.f k t341 (([(⟨15, 2⟩ : S59)] : List (S59)))).bind fun t347 => (some t347)) = some true := H
        have A16 := Aside0.mk A160
        clear A160
        obtain ⟨y344, hy344⟩ : ∃ y_ : List (S59), y_ = (([(⟨15, 2⟩ : S59)] : List (S59))) := ⟨_, rfl⟩
        replace H : ((prebendref19_SameBusy.f k t341 y344).bind fun t347 => (some t347)) = some true := mH hy344 H
        have Ny344 := Aside0.mk hy344
        clear hy344
        replace H := Option.bind_eq_some_iff.mp H
        obtain ⟨t347, A170, H⟩ := H
        replace H : (some t347) = some true := H
        have A17 := Aside0.mk A170
        clear A170
        obtain rfl := Option.some.inj H
        go_enter Try.func16, Try.ntmps16
        go_wp2_with (first | ((with_reducible refine gate_dst (N := 1) rfl ?_); (try (refine gate_guard (by rfl) ?_; dsimp only)); refine box_event ?hg (N := 1) ?hd (cs := #[.int .i64 0, .int .i64 0, .int .i64 0, .int .i64 0, .int .i64 0, .int .i64 0, .int .i64 0, .int .i64 0, .int .i64 0, .int .i64 0, .int .i64 0, .slice none 0 0]) (t := 32) ?hr ?_; (case hd => rfl); (case hg => rfl); (case hr => first | (go_simp; done) | (go_simp; rfl)); intro gb320 hg w18 hbox hb; have n0_ := Aside0.mk (below_step (mB HB.out) hb); have n1_ := Aside0.mk (hbox); have n2_ := Aside0.mk ((by rw [hg]; exact (below_size (mB HB.out)) : w.heap.size ≤ gb320)); have n3_ := Aside0.mk ((by rw [hg]; exact (below_size (mB HB.out)) : w.heap.size ≤ gb320)); clear HB; have HB := n0_; have BK320 := n1_; have GW320 := n2_; have GE320 := n3_; clear n0_ n1_ n2_ n3_; clear hb hbox hg; have hcz19_0 : w18.cell? ⟨gb320, 0, none⟩ = some (.int .i64 0) := (blk_cell BK320.out 0).trans rfl; have hcz19_1 : w18.cell? ⟨gb320, 1, none⟩ = some (.int .i64 0) := (blk_cell BK320.out 1).trans rfl; have hcz19_2 : w18.cell? ⟨gb320, 2, none⟩ = some (.int .i64 0) := (blk_cell BK320.out 2).trans rfl; have hcz19_3 : w18.cell? ⟨gb320, 3, none⟩ = some (.int .i64 0) := (blk_cell BK320.out 3).trans rfl; have hcz19_4 : w18.cell? ⟨gb320, 4, none⟩ = some (.int .i64 0) := (blk_cell BK320.out 4).trans rfl; have hcz19_5 : w18.cell? ⟨gb320, 5, none⟩ = some (.int .i64 0) := (blk_cell BK320.out 5).trans rfl; have hcz19_6 : w18.cell? ⟨gb320, 6, none⟩ = some (.int .i64 0) := (blk_cell BK320.out 6).trans rfl; have hcz19_7 : w18.cell? ⟨gb320, 7, none⟩ = some (.int .i64 0) := (blk_cell BK320.out 7).trans rfl; have hcz19_8 : w18.cell? ⟨gb320, 8, none⟩ = some (.int .i64 0) := (blk_cell BK320.out 8).trans rfl; have hcz19_9 : w18.cell? ⟨gb320, 9, none⟩ = some (.int .i64 0) := (blk_cell BK320.out 9).trans rfl; have hcz19_10 : w18.cell? ⟨gb320, 10, none⟩ = some (.int .i64 0) := (blk_cell BK320.out 10).trans rfl; have hcz19_11 : w18.cell? ⟨gb320, 11, none⟩ = some (.slice none 0 0) := (blk_cell BK320.out 11).trans rfl; have hfz19_0 := blk_frozen BK320.out 0; have hfz19_1 := blk_frozen BK320.out 1; have hfz19_2 := blk_frozen BK320.out 2; have hfz19_3 := blk_frozen BK320.out 3; have hfz19_4 := blk_frozen BK320.out 4; have hfz19_5 := blk_frozen BK320.out 5; have hfz19_6 := blk_frozen BK320.out 6; have hfz19_7 := blk_frozen BK320.out 7; have hfz19_8 := blk_frozen BK320.out 8; have hfz19_9 := blk_frozen BK320.out 9; have hfz19_10 := blk_frozen BK320.out 10; have hfz19_11 := blk_frozen BK320.out 11) | ((with_reducible refine gate_dst (N := 6) rfl ?_); (try (refine gate_guard (by rfl) ?_; dsimp only)); refine Kd.R_lit k32 _ 32 ?hg (N := 6) ?hd (xs := ([(⟨4, 0, 0, 0, 0, 0, 0, 1, 0, 0, 0, SH.nil⟩ : S32), (⟨3, 0, 2, 10, 0, 0, 0, 3, 5, 9, 0, SH.nil⟩ : S32)] : List (S32))) (inner := [.int .i64 4, .int .i64 0, .int .i64 0, .int .i64 0, .int .i64 0, .int .i64 0, .int .i64 0, .int .i64 1, .int .i64 0, .int .i64 0, .int .i64 0, .slice none 0 0, .int .i64 3, .int .i64 0, .int .i64 2, .int .i64 10, .int .i64 0, .int .i64 0, .int .i64 0, .int .i64 3, .int .i64 5, .int .i64 9, .int .i64 0, .slice none 0 0]) (ok := fun _ => True) (okp := fun _ => True) ?hr ?hp (fun _ hk => hk) trivial (Below.refl _ _) (Nat.le_refl _) (by simp) ?_; (case hd => rfl); (case hg => rfl); (case hr => first | (go_simp; done) | (go_simp; rfl)); (case hp => exact (Reps.front (show Kd.M k32 _ _ _ (⟨4, 0, 0, 0, 0, 0, 0, 1, 0, 0, 0, SH.nil⟩ : S32) [.int .i64 4, .int .i64 0, .int .i64 0, .int .i64 0, .int .i64 0, .int .i64 0, .int .i64 0, .int .i64 1, .int .i64 0, .int .i64 0, .int .i64 0, .slice none 0 0] from (k32_mkM _ _ _ (⟨4, 0, 0, 0, 0, 0, 0, 1, 0, 0, 0, SH.nil⟩ : S32) )) rfl (Reps.front (show Kd.M k32 _ _ _ (⟨3, 0, 2, 10, 0, 0, 0, 3, 5, 9, 0, SH.nil⟩ : S32) [.int .i64 3, .int .i64 0, .int .i64 2, .int .i64 10, .int .i64 0, .int .i64 0, .int .i64 0, .int .i64 3, .int .i64 5, .int .i64 9, .int .i64 0, .slice none 0 0] from (k32_mkM _ _ _ (⟨3, 0, 2, 10, 0, 0, 0, 3, 5, 9, 0, SH.nil⟩ : S32) )) rfl (Reps.none _ _) rfl) rfl)); intro v322 w20 ho21 hb hg_ hnew_; clear hg_ hnew_; (first | rw [← Ny321.out] at ho21 | (simp only [Int.reduceToNat] at ho21; rw [← Ny321.out] at ho21)); have n0_ := Aside0.mk (Kd.R_lower (Kd.R_newB ho21 (g := gb320) (o := .cells #[.int .i64 3, .int .i64 0, .int .i64 2, .int .i64 10, .int .i64 0, .int .i64 0, .int .i64 0, .int .i64 3, .int .i64 5, .int .i64 9, .int .i64 0, .slice none 0 0] 32 (0, 0)) (by (with_reducible repeat first | apply blk_drewN | apply blk_drew | apply blk_alloc); refine blk_put (cs := #[.int .i64 3, .int .i64 0, .int .i64 2, .int .i64 10, .int .i64 0, .int .i64 0, .int .i64 0, .int .i64 3, .int .i64 5, .int .i64 9, .int .i64 0, .slice none 0 0]) ?_ 11 _ rfl; (with_reducible repeat first | apply blk_drewN | apply blk_drew | apply blk_alloc); refine blk_put (cs := #[.int .i64 3, .int .i64 0, .int .i64 2, .int .i64 10, .int .i64 0, .int .i64 0, .int .i64 0, .int .i64 3, .int .i64 5, .int .i64 9, .int .i64 0, .slice none 0 0]) ?_ 10 _ rfl; (with_reducible repeat first | apply blk_drewN | apply blk_drew | apply blk_alloc); refine blk_put (cs := #[.int .i64 3, .int .i64 0, .int .i64 2, .int .i64 10, .int .i64 0, .int .i64 0, .int .i64 0, .int .i64 3, .int .i64 5, .int .i64 0, .int .i64 0, .slice none 0 0]) ?_ 9 _ rfl; (with_reducible repeat first | apply blk_drewN | apply blk_drew | apply blk_alloc); refine blk_put (cs := #[.int .i64 3, .int .i64 0, .int .i64 2, .int .i64 10, .int .i64 0, .int .i64 0, .int .i64 0, .int .i64 3, .int .i64 0, .int .i64 0, .int .i64 0, .slice none 0 0]) ?_ 8 _ rfl; (with_reducible repeat first | apply blk_drewN | apply blk_drew | apply blk_alloc); refine blk_put (cs := #[.int .i64 3, .int .i64 0, .int .i64 2, .int .i64 10, .int .i64 0, .int .i64 0, .int .i64 0, .int .i64 0, .int .i64 0, .int .i64 0, .int .i64 0, .slice none 0 0]) ?_ 7 _ rfl; (with_reducible repeat first | apply blk_drewN | apply blk_drew | apply blk_alloc); refine blk_put (cs := #[.int .i64 3, .int .i64 0, .int .i64 2, .int .i64 10, .int .i64 0, .int .i64 0, .int .i64 0, .int .i64 0, .int .i64 0, .int .i64 0, .int .i64 0, .slice none 0 0]) ?_ 6 _ rfl; (with_reducible repeat first | apply blk_drewN | apply blk_drew | apply blk_alloc); refine blk_put (cs := #[.int .i64 3, .int .i64 0, .int .i64 2, .int .i64 10, .int .i64 0, .int .i64 0, .int .i64 0, .int .i64 0, .int .i64 0, .int .i64 0, .int .i64 0, .slice none 0 0]) ?_ 5 _ rfl; (with_reducible repeat first | apply blk_drewN | apply blk_drew | apply blk_alloc); refine blk_put (cs := #[.int .i64 3, .int .i64 0, .int .i64 2, .int .i64 10, .int .i64 0, .int .i64 0, .int .i64 0, .int .i64 0, .int .i64 0, .int .i64 0, .int .i64 0, .slice none 0 0]) ?_ 4 _ rfl; (with_reducible repeat first | apply blk_drewN | apply blk_drew | apply blk_alloc); refine blk_put (cs := #[.int .i64 3, .int .i64 0, .int .i64 2, .int .i64 0, .int .i64 0, .int .i64 0, .int .i64 0, .int .i64 0, .int .i64 0, .int .i64 0, .int .i64 0, .slice none 0 0]) ?_ 3 _ rfl; (with_reducible repeat first | apply blk_drewN | apply blk_drew | apply blk_alloc); refine blk_put (cs := #[.int .i64 3, .int .i64 0, .int .i64 0, .int .i64 0, .int .i64 0, .int .i64 0, .int .i64 0, .int .i64 0, .int .i64 0, .int .i64 0, .int .i64 0, .slice none 0 0]) ?_ 2 _ rfl; (with_reducible repeat first | apply blk_drewN | apply blk_drew | apply blk_alloc); refine blk_put (cs := #[.int .i64 3, .int .i64 0, .int .i64 0, .int .i64 0, .int .i64 0, .int .i64 0, .int .i64 0, .int .i64 0, .int .i64 0, .int .i64 0, .int .i64 0, .slice none 0 0]) ?_ 1 _ rfl; (with_reducible repeat first | apply blk_drewN | apply blk_drew | apply blk_alloc); refine blk_put (cs := #[.int .i64 0, .int .i64 0, .int .i64 0, .int .i64 0, .int .i64 0, .int .i64 0, .int .i64 0, .int .i64 0, .int .i64 0, .int .i64 0, .int .i64 0, .slice none 0 0]) ?_ 0 _ rfl; (with_reducible repeat first | apply blk_drewN | apply blk_drew | apply blk_alloc); exact BK320.out)) (below_size (mBs HB.out))); have n1_ := Aside0.mk (blk_below (g := gb320) (o := .cells #[.int .i64 3, .int .i64 0, .int .i64 2, .int .i64 10, .int .i64 0, .int .i64 0, .int .i64 0, .int .i64 3, .int .i64 5, .int .i64 9, .int .i64 0, .slice none 0 0] 32 (0, 0)) (by (with_reducible repeat first | apply blk_drewN | apply blk_drew | apply blk_alloc); refine blk_put (cs := #[.int .i64 3, .int .i64 0, .int .i64 2, .int .i64 10, .int .i64 0, .int .i64 0, .int .i64 0, .int .i64 3, .int .i64 5, .int .i64 9, .int .i64 0, .slice none 0 0]) ?_ 11 _ rfl; (with_reducible repeat first | apply blk_drewN | apply blk_drew | apply blk_alloc); refine blk_put (cs := #[.int .i64 3, .int .i64 0, .int .i64 2, .int .i64 10, .int .i64 0, .int .i64 0, .int .i64 0, .int .i64 3, .int .i64 5, .int .i64 9, .int .i64 0, .slice none 0 0]) ?_ 10 _ rfl; (with_reducible repeat first | apply blk_drewN | apply blk_drew | apply blk_alloc); refine blk_put (cs := #[.int .i64 3, .int .i64 0, .int .i64 2, .int .i64 10, .int .i64 0, .int .i64 0, .int .i64 0, .int .i64 3, .int .i64 5, .int .i64 0, .int .i64 0, .slice none 0 0]) ?_ 9 _ rfl; (with_reducible repeat first | apply blk_drewN | apply blk_drew | apply blk_alloc); refine blk_put (cs := #[.int .i64 3, .int .i64 0, .int .i64 2, .int .i64 10, .int .i64 0, .int .i64 0, .int .i64 0, .int .i64 3, .int .i64 0, .int .i64 0, .int .i64 0, .slice none 0 0]) ?_ 8 _ rfl; (with_reducible repeat first | apply blk_drewN | apply blk_drew | apply blk_alloc); refine blk_put (cs := #[.int .i64 3, .int .i64 0, .int .i64 2, .int .i64 10, .int .i64 0, .int .i64 0, .int .i64 0, .int .i64 0, .int .i64 0, .int .i64 0, .int .i64 0, .slice none 0 0]) ?_ 7 _ rfl; (with_reducible repeat first | apply blk_drewN | apply blk_drew | apply blk_alloc); refine blk_put (cs := #[.int .i64 3, .int .i64 0, .int .i64 2, .int .i64 10, .int .i64 0, .int .i64 0, .int .i64 0, .int .i64 0, .int .i64 0, .int .i64 0, .int .i64 0, .slice none 0 0]) ?_ 6 _ rfl; (with_reducible repeat first | apply blk_drewN | apply blk_drew | apply blk_alloc); refine blk_put (cs := #[.int .i64 3, .int .i64 0, .int .i64 2, .int .i64 10, .int .i64 0, .int .i64 0, .int .i64 0, .int .i64 0, .int .i64 0, .int .i64 0, .int .i64 0, .slice none 0 0]) ?_ 5 _ rfl; (with_reducible repeat first | apply blk_drewN | apply blk_drew | apply blk_alloc); refine blk_put (cs := #[.int .i64 3, .int .i64 0, .int .i64 2, .int .i64 10, .int .i64 0, .int .i64 0, .int .i64 0, .int .i64 0, .int .i64 0, .int .i64 0, .int .i64 0, .slice none 0 0]) ?_ 4 _ rfl; (with_reducible repeat first | apply blk_drewN | apply blk_drew | apply blk_alloc); refine blk_put (cs := #[.int .i64 3, .int .i64 0, .int .i64 2, .int .i64 0, .int .i64 0, .int .i64 0, .int .i64 0, .int .i64 0, .int .i64 0, .int .i64 0, .int .i64 0, .slice none 0 0]) ?_ 3 _ rfl; (with_reducible repeat first | apply blk_drewN | apply blk_drew | apply blk_alloc); refine blk_put (cs := #[.int .i64 3, .int .i64 0, .int .i64 0, .int .i64 0, .int .i64 0, .int .i64 0, .int .i64 0, .int .i64 0, .int .i64 0, .int .i64 0, .int .i64 0, .slice none 0 0]) ?_ 2 _ rfl; (with_reducible repeat first | apply blk_drewN | apply blk_drew | apply blk_alloc); refine blk_put (cs := #[.int .i64 3, .int .i64 0, .int .i64 0, .int .i64 0, .int .i64 0, .int .i64 0, .int .i64 0, .int .i64 0, .int .i64 0, .int .i64 0, .int .i64 0, .slice none 0 0]) ?_ 1 _ rfl; (with_reducible repeat first | apply blk_drewN | apply blk_drew | apply blk_alloc); refine blk_put (cs := #[.int .i64 0, .int .i64 0, .int .i64 0, .int .i64 0, .int .i64 0, .int .i64 0, .int .i64 0, .int .i64 0, .int .i64 0, .int .i64 0, .int .i64 0, .slice none 0 0]) ?_ 0 _ rfl; (with_reducible repeat first | apply blk_drewN | apply blk_drew | apply blk_alloc); exact BK320.out) hb); have n2_ := Aside0.mk (below_step (mBs HB.out) hb); clear BK320; clear HB; have HO323 := n0_; have BK320 := n1_; have HB := n2_; clear n0_ n1_ n2_; clear hb ho21; have hcz22_0 : w20.cell? ⟨gb320, 0, none⟩ = some (.int .i64 3) := (blk_cell BK320.out 0).trans rfl; have hcz22_1 : w20.cell? ⟨gb320, 1, none⟩ = some (.int .i64 0) := (blk_cell BK320.out 1).trans rfl; have hcz22_2 : w20.cell? ⟨gb320, 2, none⟩ = some (.int .i64 2) := (blk_cell BK320.out 2).trans rfl; have hcz22_3 : w20.cell? ⟨gb320, 3, none⟩ = some (.int .i64 10) := (blk_cell BK320.out 3).trans rfl; have hcz22_4 : w20.cell? ⟨gb320, 4, none⟩ = some (.int .i64 0) := (blk_cell BK320.out 4).trans rfl; have hcz22_5 : w20.cell? ⟨gb320, 5, none⟩ = some (.int .i64 0) := (blk_cell BK320.out 5).trans rfl; have hcz22_6 : w20.cell? ⟨gb320, 6, none⟩ = some (.int .i64 0) := (blk_cell BK320.out 6).trans rfl; have hcz22_7 : w20.cell? ⟨gb320, 7, none⟩ = some (.int .i64 3) := (blk_cell BK320.out 7).trans rfl; have hcz22_8 : w20.cell? ⟨gb320, 8, none⟩ = some (.int .i64 5) := (blk_cell BK320.out 8).trans rfl; have hcz22_9 : w20.cell? ⟨gb320, 9, none⟩ = some (.int .i64 9) := (blk_cell BK320.out 9).trans rfl; have hcz22_10 : w20.cell? ⟨gb320, 10, none⟩ = some (.int .i64 0) := (blk_cell BK320.out 10).trans rfl; have hcz22_11 : w20.cell? ⟨gb320, 11, none⟩ = some (.slice none 0 0) := (blk_cell BK320.out 11).trans rfl; have hfz22_0 := blk_frozen BK320.out 0; have hfz22_1 := blk_frozen BK320.out 1; have hfz22_2 := blk_frozen BK320.out 2; have hfz22_3 := blk_frozen BK320.out 3; have hfz22_4 := blk_frozen BK320.out 4; have hfz22_5 := blk_frozen BK320.out 5; have hfz22_6 := blk_frozen BK320.out 6; have hfz22_7 := blk_frozen BK320.out 7; have hfz22_8 := blk_frozen BK320.out 8; have hfz22_9 := blk_frozen BK320.out 9; have hfz22_10 := blk_frozen BK320.out 10; have hfz22_11 := blk_frozen BK320.out 11) | ((with_reducible refine gate_callee (f := 29) rfl ?_); refine goesL_ (some 8) rfl rfl Try.func29 (by kernel_rfl) rfl #[.agg #[.int .i64 3, .int .i64 0, .int .i64 2, .int .i64 10, .int .i64 0, .int .i64 0, .int .i64 0, .int .i64 3, .int .i64 5, .int .i64 9, .int .i64 0, .slice none 0 0]] rfl mt ?_; (with_reducible refine (job_Good.calls_nil true _ A1.out).mono ?_); rintro e w23 ⟨rfl, hb⟩; refine ⟨_, rfl, ?_⟩; have n0_ := Aside0.mk (Kd.R_below (mR HO323.out) hb); have n1_ := Aside0.mk (blk_below (g := gb320) (o := .cells #[.int .i64 3, .int .i64 0, .int .i64 2, .int .i64 10, .int .i64 0, .int .i64 0, .int .i64 0, .int .i64 3, .int .i64 5, .int .i64 9, .int .i64 0, .slice none 0 0] 32 (0, 0)) (mBK BK320.out) hb); have n2_ := Aside0.mk (below_step (mBs HB.out) hb); clear HO323; clear BK320; clear HB; have HO323 := n0_; have BK320 := n1_; have HB := n2_; clear n0_ n1_ n2_; (try clear hb); (try clear hb2); (try clear hk); (try clear hi); obtain ⟨Ao24, co24, eo24⟩ := Kd.R_slice HO323.out; subst eo24) | (go_at_call 17; (with_reducible refine (job_Find.calls k _ _ y321 3 t325 _ ?side1 ?side2 A3.out).mono ?_); (case side1 => exact mC (Kd.R_reads' HO323.out).2.2); (case side2 => exact (Kd.R_reads' HO323.out).2.1); rintro e w25 ⟨rfl, hb⟩; have n0_ := Aside0.mk (Kd.R_below (mR HO323.out) hb); have n1_ := Aside0.mk (blk_below (g := gb320) (o := .cells #[.int .i64 3, .int .i64 0, .int .i64 2, .int .i64 10, .int .i64 0, .int .i64 0, .int .i64 0, .int .i64 3, .int .i64 5, .int .i64 9, .int .i64 0, .slice none 0 0] 32 (0, 0)) (mBK BK320.out) hb); have n2_ := Aside0.mk (below_step (mBs HB.out) hb); clear HO323; clear BK320; clear HB; have HO323 := n0_; have BK320 := n1_; have HB := n2_; clear n0_ n1_ n2_; (try clear hb); (try clear hb2); (try clear hk); (try clear hi)) | (go_at_call 17; (with_reducible refine (job_Find.calls k _ _ y321 5 t326 _ ?side1 ?side2 A5.out).mono ?_); (case side1 => exact mC (Kd.R_reads' HO323.out).2.2); (case side2 => exact (Kd.R_reads' HO323.out).2.1); rintro e w26 ⟨rfl, hb⟩; have n0_ := Aside0.mk (Kd.R_below (mR HO323.out) hb); have n1_ := Aside0.mk (blk_below (g := gb320) (o := .cells #[.int .i64 3, .int .i64 0, .int .i64 2, .int .i64 10, .int .i64 0, .int .i64 0, .int .i64 0, .int .i64 3, .int .i64 5, .int .i64 9, .int .i64 0, .slice none 0 0] 32 (0, 0)) (mBK BK320.out) hb); have n2_ := Aside0.mk (below_step (mBs HB.out) hb); clear HO323; clear BK320; clear HB; have HO323 := n0_; have BK320 := n1_; have HB := n2_; clear n0_ n1_ n2_; (try clear hb); (try clear hb2); (try clear hk); (try clear hi)) | (go_at_call 19; (with_reducible refine (job_Mask.calls k _ _ y321 t327 _ ?side1 ?side2 A7.out).mono ?_); (case side1 => exact mC (Kd.R_reads' HO323.out).2.2); (case side2 => exact (Kd.R_reads' HO323.out).2.1); rintro e w27 ⟨rfl, hb⟩; have n0_ := Aside0.mk (Kd.R_below (mR HO323.out) hb); have n1_ := Aside0.mk (blk_below (g := gb320) (o := .cells #[.int .i64 3, .int .i64 0, .int .i64 2, .int .i64 10, .int .i64 0, .int .i64 0, .int .i64 0, .int .i64 3, .int .i64 5, .int .i64 9, .int .i64 0, .slice none 0 0] 32 (0, 0)) (mBK BK320.out) hb); have n2_ := Aside0.mk (below_step (mBs HB.out) hb); clear HO323; clear BK320; clear HB; have HO323 := n0_; have BK320 := n1_; have HB := n2_; clear n0_ n1_ n2_; (try clear hb); (try clear hb2); (try clear hk); (try clear hi)) | (go_at_call 27; (with_reducible refine (job_Due.calls k _ _ y321 15 t328 _ ?side1 ?side2 A9.out).mono ?_); (case side1 => exact mC (Kd.R_reads' HO323.out).2.2); (case side2 => exact (Kd.R_reads' HO323.out).2.1); rintro e w28 ⟨v329, rfl, ho0, hb⟩; have n0_ := Aside0.mk (Kd.R_below (mR HO323.out) hb); have n1_ := Aside0.mk (Kd.V_lower (Kd.V_mono (ok' := fun k_ => some k_ ≠ (.slice Ao24 y321.length co24 : Value).ownBlock ∧ k_ ≠ gb320) ho0 (fun k_ hk_ => ⟨(Kd.fresh' (Kd.R_lt (mR HO323.out)) k_ hk_), (Kd.freshB (g := gb320) (o := .cells #[.int .i64 3, .int .i64 0, .int .i64 2, .int .i64 10, .int .i64 0, .int .i64 0, .int .i64 0, .int .i64 3, .int .i64 5, .int .i64 9, .int .i64 0, .slice none 0 0] 32 (0, 0)) (mBK BK320.out) k_ hk_)⟩)) (below_size (mBs HB.out))); have n2_ := Aside0.mk (blk_below (g := gb320) (o := .cells #[.int .i64 3, .int .i64 0, .int .i64 2, .int .i64 10, .int .i64 0, .int .i64 0, .int .i64 0, .int .i64 3, .int .i64 5, .int .i64 9, .int .i64 0, .slice none 0 0] 32 (0, 0)) (mBK BK320.out) hb); have n3_ := Aside0.mk (below_step (mBs HB.out) hb); clear HO323; clear BK320; clear HB; have HO323 := n0_; have HO330 := n1_; have BK320 := n2_; have HB := n3_; clear n0_ n1_ n2_ n3_; (try clear hb); (try clear hb2); (try clear hk); (try clear hi); (try clear ho0)) | ((with_reducible refine gate_dst (N := 27) rfl ?_); (try (refine gate_guard (by rfl) ?_; dsimp only)); refine Kd.R_lit (Kd.int .i64) _ 3 ?hg (N := 27) ?hd (xs := ([3] : List Int)) (inner := [.int .i64 3]) (ok := fun _ => True) (okp := fun _ => True) ?hr ?hp (fun _ hk => hk) trivial (Below.refl _ _) (Nat.le_refl _) (by simp) ?_; (case hd => rfl); (case hg => rfl); (case hr => first | (go_simp; done) | (go_simp; rfl)); (case hp => exact (Reps.one (show Kd.M (Kd.int .i64) _ _ _ 3 [.int .i64 3] from rfl) (Reps.none _ _))); intro v332 w29 ho30 hb hg_ hnew_; clear hg_ hnew_; (first | rw [← Ny331.out] at ho30 | (simp only [Int.reduceToNat] at ho30; rw [← Ny331.out] at ho30)); have n0_ := Aside0.mk (Kd.R_below (mR HO323.out) hb); have n1_ := Aside0.mk (Kd.V_elder' (mV HO330.out) (Kd.R_base ho30) hb); have n2_ := Aside0.mk (Kd.R_lower ho30 (below_size (mBs HB.out))); have n3_ := Aside0.mk (blk_below (g := gb320) (o := .cells #[.int .i64 3, .int .i64 0, .int .i64 2, .int .i64 10, .int .i64 0, .int .i64 0, .int .i64 0, .int .i64 3, .int .i64 5, .int .i64 9, .int .i64 0, .slice none 0 0] 32 (0, 0)) (mBK BK320.out) hb); have n4_ := Aside0.mk (below_step (mBs HB.out) hb); clear HO323; clear HO330; clear BK320; clear HB; have HO323 := n0_; have HO330 := n1_; have HO333 := n2_; have BK320 := n3_; have HB := n4_; clear n0_ n1_ n2_ n3_ n4_; clear hb ho30; obtain ⟨Ao31, co31, eo31⟩ := Kd.V_slice HO330.out; subst eo31; obtain ⟨Ao32, co32, eo32⟩ := Kd.R_slice HO333.out; subst eo32) | (go_at_call 13; (with_reducible refine (prebendref01_Ints.calls k _ _ t328 _ _ y331 true _ ?side1 ?side2 ?side3 ?side4 A10.out).mono ?_); (case side1 => exact mC (Kd.V_reads' HO330.out).2.2); (case side2 => exact (Kd.V_reads' HO330.out).2.1); (case side3 => exact mC (Kd.R_reads' HO333.out).2.2); (case side4 => exact (Kd.R_reads' HO333.out).2.1); rintro e w' ⟨rfl, ⟨nd, rfl⟩⟩) | (go_at_call 27; (with_reducible refine (job_Due.calls k _ _ y321 14 t335 _ ?side1 ?side2 A12.out).mono ?_); (case side1 => exact mC (Kd.R_reads' HO323.out).2.2); (case side2 => exact (Kd.R_reads' HO323.out).2.1); rintro e w33 ⟨v336, rfl, ho0, hb⟩; have n0_ := Aside0.mk (Kd.R_below (mR HO323.out) hb); have n1_ := Aside0.mk (Kd.V_below (mV HO330.out) hb); have n2_ := Aside0.mk (Kd.R_below (mR HO333.out) hb); have n3_ := Aside0.mk (Kd.V_lower (Kd.V_mono (ok' := fun k_ => some k_ ≠ (.slice Ao24 y321.length co24 : Value).ownBlock ∧ some k_ ≠ (.slice Ao32 y331.length co32 : Value).ownBlock ∧ k_ ≠ gb320) ho0 (fun k_ hk_ => ⟨(Kd.fresh' (Kd.R_lt (mR HO323.out)) k_ hk_), (Kd.fresh' (Kd.R_lt (mR HO333.out)) k_ hk_), (Kd.freshB (g := gb320) (o := .cells #[.int .i64 3, .int .i64 0, .int .i64 2, .int .i64 10, .int .i64 0, .int .i64 0, .int .i64 0, .int .i64 3, .int .i64 5, .int .i64 9, .int .i64 0, .slice none 0 0] 32 (0, 0)) (mBK BK320.out) k_ hk_)⟩)) (below_size (mBs HB.out))); have n4_ := Aside0.mk (blk_below (g := gb320) (o := .cells #[.int .i64 3, .int .i64 0, .int .i64 2, .int .i64 10, .int .i64 0, .int .i64 0, .int .i64 0, .int .i64 3, .int .i64 5, .int .i64 9, .int .i64 0, .slice none 0 0] 32 (0, 0)) (mBK BK320.out) hb); have n5_ := Aside0.mk (below_step (mBs HB.out) hb); clear HO323; clear HO330; clear HO333; clear BK320; clear HB; have HO323 := n0_; have HO330 := n1_; have HO333 := n2_; have HO337 := n3_; have BK320 := n4_; have HB := n5_; clear n0_ n1_ n2_ n3_ n4_ n5_; (try clear hb); (try clear hb2); (try clear hk); (try clear hi); (try clear ho0); obtain ⟨Ao34, co34, eo34⟩ := Kd.V_slice HO337.out; subst eo34) | (go_at_call 25; (with_reducible refine (job_Boxes.calls k _ _ y321 t338 _ ?side1 ?side2 A14.out).mono ?_); (case side1 => exact mC (Kd.R_reads' HO323.out).2.2); (case side2 => exact (Kd.R_reads' HO323.out).2.1); rintro e w35 ⟨v339, rfl, ho0, hb⟩; have n0_ := Aside0.mk (Kd.R_below (mR HO323.out) hb); have n1_ := Aside0.mk (Kd.V_below (mV HO330.out) hb); have n2_ := Aside0.mk (Kd.R_below (mR HO333.out) hb); have n3_ := Aside0.mk (Kd.V_below (mV HO337.out) hb); have n4_ := Aside0.mk (Kd.V_lower (Kd.V_mono (ok' := fun k_ => some k_ ≠ (.slice Ao24 y321.length co24 : Value).ownBlock ∧ some k_ ≠ (.slice Ao32 y331.length co32 : Value).ownBlock ∧ k_ ≠ gb320) ho0 (fun k_ hk_ => ⟨(Kd.fresh' (Kd.R_lt (mR HO323.out)) k_ hk_), (Kd.fresh' (Kd.R_lt (mR HO333.out)) k_ hk_), (Kd.freshB (g := gb320) (o := .cells #[.int .i64 3, .int .i64 0, .int .i64 2, .int .i64 10, .int .i64 0, .int .i64 0, .int .i64 0, .int .i64 3, .int .i64 5, .int .i64 9, .int .i64 0, .slice none 0 0] 32 (0, 0)) (mBK BK320.out) k_ hk_)⟩)) (below_size (mBs HB.out))); have n5_ := Aside0.mk (blk_below (g := gb320) (o := .cells #[.int .i64 3, .int .i64 0, .int .i64 2, .int .i64 10, .int .i64 0, .int .i64 0, .int .i64 0, .int .i64 3, .int .i64 5, .int .i64 9, .int .i64 0, .slice none 0 0] 32 (0, 0)) (mBK BK320.out) hb); have n6_ := Aside0.mk (below_step (mBs HB.out) hb); clear HO323; clear HO330; clear HO333; clear HO337; clear BK320; clear HB; have HO323 := n0_; have HO330 := n1_; have HO333 := n2_; have HO337 := n3_; have HO340 := n4_; have BK320 := n5_; have HB := n6_; clear n0_ n1_ n2_ n3_ n4_ n5_ n6_; (try clear hb); (try clear hb2); (try clear hk); (try clear hi); (try clear ho0); obtain ⟨Ao36, co36, eo36⟩ := Kd.V_slice HO340.out; subst eo36) | (go_at_call 22; (with_reducible refine (job_Busy.calls k _ _ y321 t341 _ ?side1 ?side2 A16.out).mono ?_); (case side1 => exact mC (Kd.R_reads' HO323.out).2.2); (case side2 => exact (Kd.R_reads' HO323.out).2.1); rintro e w37 ⟨v342, rfl, ho0, hb⟩; have n0_ := Aside0.mk (Kd.R_below (mR HO323.out) hb); have n1_ := Aside0.mk (Kd.V_below (mV HO330.out) hb); have n2_ := Aside0.mk (Kd.R_below (mR HO333.out) hb); have n3_ := Aside0.mk (Kd.V_below (mV HO337.out) hb); have n4_ := Aside0.mk (Kd.V_below (mV HO340.out) hb); have n5_ := Aside0.mk (Kd.V_lower (Kd.V_mono (ok' := fun k_ => some k_ ≠ (.slice Ao24 y321.length co24 : Value).ownBlock ∧ some k_ ≠ (.slice Ao32 y331.length co32 : Value).ownBlock ∧ k_ ≠ gb320) ho0 (fun k_ hk_ => ⟨(Kd.fresh' (Kd.R_lt (mR HO323.out)) k_ hk_), (Kd.fresh' (Kd.R_lt (mR HO333.out)) k_ hk_), (Kd.freshB (g := gb320) (o := .cells #[.int .i64 3, .int .i64 0, .int .i64 2, .int .i64 10, .int .i64 0, .int .i64 0, .int .i64 0, .int .i64 3, .int .i64 5, .int .i64 9, .int .i64 0, .slice none 0 0] 32 (0, 0)) (mBK BK320.out) k_ hk_)⟩)) (below_size (mBs HB.out))); have n6_ := Aside0.mk (blk_below (g := gb320) (o := .cells #[.int .i64 3, .int .i64 0, .int .i64 2, .int .i64 10, .int .i64 0, .int .i64 0, .int .i64 0, .int .i64 3, .int .i64 5, .int .i64 9, .int .i64 0, .slice none 0 0] 32 (0, 0)) (mBK BK320.out) hb); have n7_ := Aside0.mk (below_step (mBs HB.out) hb); clear HO323; clear HO330; clear HO333; clear HO337; clear HO340; clear BK320; clear HB; have HO323 := n0_; have HO330 := n1_; have HO333 := n2_; have HO337 := n3_; have HO340 := n4_; have HO343 := n5_; have BK320 := n6_; have HB := n7_; clear n0_ n1_ n2_ n3_ n4_ n5_ n6_ n7_; (try clear hb); (try clear hb2); (try clear hk); (try clear hi); (try clear ho0)) | ((with_reducible refine gate_dst (N := 46) rfl ?_); (try (refine gate_guard (by rfl) ?_; dsimp only)); refine Kd.R_lit k59 _ 59 ?hg (N := 46) ?hd (xs := ([(⟨15, 2⟩ : S59)] : List (S59))) (inner := [.int .i64 15, .int .i64 2]) (ok := fun _ => True) (okp := fun _ => True) ?hr ?hp (fun _ hk => hk) trivial (Below.refl _ _) (Nat.le_refl _) (by simp) ?_; (case hd => rfl); (case hg => rfl); (case hr => first | (go_simp; done) | (go_simp; rfl)); (case hp => exact (Reps.c2 (show Kd.M k59 _ _ _ (⟨15, 2⟩ : S59) [.int .i64 15, .int .i64 2] from (k59_mkM _ _ _ (⟨15, 2⟩ : S59) )) (Reps.none _ _))); intro v345 w38 ho39 hb hg_ hnew_; clear hg_ hnew_; (first | rw [← Ny344.out] at ho39 | (simp only [Int.reduceToNat] at ho39; rw [← Ny344.out] at ho39)); have n0_ := Aside0.mk (Kd.R_below (mR HO323.out) hb); have n1_ := Aside0.mk (Kd.V_elder' (mV HO330.out) (Kd.R_base ho39) hb); have n2_ := Aside0.mk (Kd.R_below (mR HO333.out) hb); have n3_ := Aside0.mk (Kd.V_elder' (mV HO337.out) (Kd.R_base ho39) hb); have n4_ := Aside0.mk (Kd.V_elder' (mV HO340.out) (Kd.R_base ho39) hb); have n5_ := Aside0.mk (Kd.V_elder' (mV HO343.out) (Kd.R_base ho39) hb); have n6_ := Aside0.mk (Kd.R_lower ho39 (below_size (mBs HB.out))); have n7_ := Aside0.mk (blk_below (g := gb320) (o := .cells #[.int .i64 3, .int .i64 0, .int .i64 2, .int .i64 10, .int .i64 0, .int .i64 0, .int .i64 0, .int .i64 3, .int .i64 5, .int .i64 9, .int .i64 0, .slice none 0 0] 32 (0, 0)) (mBK BK320.out) hb); have n8_ := Aside0.mk (below_step (mBs HB.out) hb); clear HO323; clear HO330; clear HO333; clear HO337; clear HO340; clear HO343; clear BK320; clear HB; have HO323 := n0_; have HO330 := n1_; have HO333 := n2_; have HO337 := n3_; have HO340 := n4_; have HO343 := n5_; have HO346 := n6_; have BK320 := n7_; have HB := n8_; clear n0_ n1_ n2_ n3_ n4_ n5_ n6_ n7_ n8_; clear hb ho39; obtain ⟨Ao40, co40, eo40⟩ := Kd.V_slice HO343.out; subst eo40; obtain ⟨Ao41, co41, eo41⟩ := Kd.R_slice HO346.out; subst eo41) | (go_at_call 21; (with_reducible refine (prebendref19_SameBusy.calls k _ _ t341 _ _ y344 true _ ?side1 ?side2 ?side3 ?side4 A17.out).mono ?_); (case side1 => exact mC (Kd.V_reads' HO343.out).2.2); (case side2 => exact (Kd.V_reads' HO343.out).2.1); (case side3 => exact mC (Kd.R_reads' HO346.out).2.2); (case side4 => exact (Kd.R_reads' HO346.out).2.1); rintro e w' ⟨rfl, ⟨nd, rfl⟩⟩))
        go_ret
        exact ⟨by first | rfl | (simp [errW_none, errW_some] <;> rfl) | (simp [*, errW_none, errW_some] <;> rfl), by repeat (first | (with_reducible first | exact HB.out | apply below_alloc | apply pw_below_drewN | apply below_drew1 | refine below_set ?_ GE320.out) | exact HB.out)⟩
       ·rw [if_neg c15] at H
        exact absurd (Option.some.inj H) (by decide)
      ·rw [if_neg c13] at H
       exact absurd (Option.some.inj H) (by decide)
     ·replace c11 := Bool.eq_false_iff.mpr c11
      subst c11
      have H1 : (some false) = some true := by rw [if_neg (show ¬ (false = true) by decide)] at H; exact H
      exact absurd (Option.some.inj H1) (by decide)
    ·rw [if_neg c8] at H
     exact absurd (Option.some.inj H) (by decide)
   ·rw [if_neg c6] at H
    exact absurd (Option.some.inj H) (by decide)
  ·rw [if_neg c4] at H
   exact absurd (Option.some.inj H) (by decide)
 ·replace c2 := Bool.eq_false_iff.mpr c2
  subst c2
  have H1 : (some false) = some true := by rw [if_neg (show ¬ (false = true) by decide)] at H; exact H
  exact absurd (Option.some.inj H1) (by decide)end Go.Proofs.Ytkhfgflcanmefaa.PAll
end
section
namespace Go.Proofs.Ytkhfgflcanmefaa.PAll
open Go.RowKit Go.Proofs.YtkhfgflcanmefaaW.PrintWords Go.Proofs.YtkhfgflcanmefaaW.PrintLast Go.Proofs.YtkhfgflcanmefaaW.PrintMore
attribute [local go_sem] max2_int min2_int max_two min_two max_three min_three max_four min_four   -- for this text's walks alone
set_option linter.unusedVariables false
set_option linter.unusedSimpArgs false

def prebendref19_Find.l0 : Nat → List (S32) → Int → Int → Option (Int)
  | 0, _, _, _ => none
  | k + 1, x0, x1, x5 => if x5 < (x0.length : Int) then (if 0 ≤ x5 then (if ((rd_T32 x0 x5).f0) = x1 then (some x5) else (prebendref19_Find.l0 k x0 x1 (wrap64 (x5 + 1)))) else (none)) else (some (-1))
def prebendref19_Find.f (k : Nat) (l0 : List (S32)) (a1 : Int) : Option (Int) := prebendref19_Find.l0 k l0 a1 0
theorem prebendref19_Find.mono_l : ∀ k, (∀ y0 y1 y2, LeO (prebendref19_Find.l0 k y0 y1 y2) (prebendref19_Find.l0 (k + 1) y0 y1 y2))
  | 0 => fun _ _ _ r h => by simp [prebendref19_Find.l0] at h
  | k + 1 => by
    have ih0 := prebendref19_Find.mono_l k
    · intro y0 y1 y2
      unfold prebendref19_Find.l0
      repeat' first
      | (with_reducible exact ih0 _ _ _)
      | (with_reducible exact LeO.refl _)
      | (with_reducible exact LeO.none _)
      | (with_reducible refine LeO.ite ?_ ?_)
      | (with_reducible refine LeO.bind ?_ (fun _ => ?_))
      | exact ih0 _ _ _
      | exact LeO.none _
      | refine LeO.ite ?_ ?_
      | refine LeO.bind ?_ (fun _ => ?_)
theorem prebendref19_Find.mono : ∀ a0 a1 k, LeO (prebendref19_Find.f k a0 a1) (prebendref19_Find.f (k + 1) a0 a1) := by
  intro a0 a1 k
  have ih0 := prebendref19_Find.mono_l k
  unfold prebendref19_Find.f
  repeat' first
      | (with_reducible exact ih0 _ _ _)
      | (with_reducible exact LeO.refl _)
      | (with_reducible exact LeO.none _)
      | (with_reducible refine LeO.ite ?_ ?_)
      | (with_reducible refine LeO.bind ?_ (fun _ => ?_))
      | exact ih0 _ _ _
      | exact LeO.none _
      | refine LeO.ite ?_ ?_
      | refine LeO.bind ?_ (fun _ => ?_)
set_option maxHeartbeats 8000000 in
set_option maxRecDepth 100000 in
theorem prebendref19_Find.calls (k : Nat) (A0 : Option Addr) (c0 : Nat) (l0 : List (S32)) (a1 : Int) (r : Int) (w : World) (hr0 : Kd.C k32 w A0 l0.length l0) (hc0 : l0.length ≤ c0) (h : prebendref19_Find.f k l0 a1 = some r) :
    Calls Try.prog 18 #[.slice A0 l0.length c0, .int .i64 a1] w fun e w' => e = .returned (.int .i64 r) ∧ Drawn0 w w' := by
  have HR0 := Aside0.mk hr0
  have HC0 := Aside0.mk hc0
  clear hr0 hc0
  have H : (prebendref19_Find.l0 k l0 a1 0) = some r := h
  clear h
  have H' := Aside0.mk H
  clear H
  go_enter Try.func18, Try.ntmps18
  go_wp2
  go_loopg [5] k (fun kq v5 w' => ∃ (x5_1 : Int), v5 = .int .i64 x5_1 ∧ Aside0 (prebendref19_Find.l0 kq l0 a1 x5_1 = some r) ∧ Aside0 (kq ≤ k) ∧ Drawn0 w w')
  case atStart => exact ⟨(0), (by first | rfl | (simp; done) | (simp [*]; done)), H', ⟨Nat.le_refl _⟩, by repeat (first | exact Drawn0.refl _ | apply Drawn0.step)⟩
  case round =>
    clear H'
    try clear c1
    try clear p2
    obtain ⟨x5_1, rfl, HA, HK1, ⟨m1, rfl⟩⟩ := hrel
    cases gk with
    | zero => exact absurd HA.out (by simp [prebendref19_Find.l0])
    | succ k1 =>
      have H := HA.out
      clear HA
      simp only [prebendref19_Find.l0] at H
      by_cases c3 : x5_1 < (l0.length : Int)
      · rw [if_pos c3] at H
        have c3b0 : decide (x5_1 < (l0.length : Int)) = true := decide_eq_true c3
        clear c3
        by_cases c4 : 0 ≤ x5_1
        · rw [if_pos c4] at H
          have c4b0 : decide (0 ≤ x5_1) = true := decide_eq_true c4
          clear c4
          by_cases c5 : ((rd_T32 l0 x5_1).f0) = a1
          · rw [if_pos c5] at H
            have c5b0 : (((rd_T32 l0 x5_1).f0) == a1) = true := beq_iff_eq.mpr c5
            have c5b1 : (((rd_T32 l0 x5_1).f0) != a1) = false := bne_eq_false_iff_eq.mpr c5
            clear c5
            obtain rfl := Option.some.inj H
            have p348 : 0 ≤ (x5_1 : Int) := of_decide_eq_true (by first | (with_reducible assumption) | assumption)
            have q348 : x5_1 < (l0.length : Int) := of_decide_eq_true (by first | (with_reducible assumption) | assumption)
            obtain ⟨ad348, e348, hx348_0, hx348_1, hx348_2, hx348_3, hx348_4, hx348_5, hx348_6, hx348_7, hx348_8, hx348_9, hx348_10, hx348_11⟩ := at_T32 HR0.out x5_1 p348 q348
            cases e348
            replace p348 := eq_true p348
            replace q348 := eq_true q348
            go_wp2
            go_ret
            exact ⟨by first | rfl | (simp; done) | (simp [*]; done), by repeat (first | exact Drawn0.refl _ | apply Drawn0.step)⟩
          · rw [if_neg c5] at H
            have c5b0 : (((rd_T32 l0 x5_1).f0) == a1) = false := beq_eq_false_iff_ne.mpr c5
            have c5b1 : (((rd_T32 l0 x5_1).f0) != a1) = true := bne_iff_ne.mpr c5
            have H' := Aside0.mk H
            clear H
            have p348 : 0 ≤ (x5_1 : Int) := of_decide_eq_true (by first | (with_reducible assumption) | assumption)
            have q348 : x5_1 < (l0.length : Int) := of_decide_eq_true (by first | (with_reducible assumption) | assumption)
            obtain ⟨ad348, e348, hx348_0, hx348_1, hx348_2, hx348_3, hx348_4, hx348_5, hx348_6, hx348_7, hx348_8, hx348_9, hx348_10, hx348_11⟩ := at_T32 HR0.out x5_1 p348 q348
            cases e348
            replace p348 := eq_true p348
            replace q348 := eq_true q348
            go_wp2
            go_roundg k1
            case measure => have := HK1.out; omega
            case rel => exact ⟨(wrap64 (x5_1 + 1)), (by first | rfl | (simp; done) | (simp [*]; done)), H', ⟨by have := HK1.out; omega⟩, by repeat (first | exact Drawn0.refl _ | apply Drawn0.step)⟩
        · rw [if_neg c4] at H
          exact absurd H (by simp)
      · rw [if_neg c3] at H
        have c3b0 : decide (x5_1 < (l0.length : Int)) = false := decide_eq_false c3
        clear c3
        obtain rfl := Option.some.inj H
        go_wp2
        go_ret
        exact ⟨by first | rfl | (simp; done) | (simp [*]; done), by repeat (first | exact Drawn0.refl _ | apply Drawn0.step)⟩

end Go.Proofs.Ytkhfgflcanmefaa.PAll
end
section
namespace Go.Proofs.Ytkhfgflcanmefaa.PAll
open Go.RowKit Go.Proofs.YtkhfgflcanmefaaW.PrintWords Go.Proofs.YtkhfgflcanmefaaW.PrintLast Go.Proofs.YtkhfgflcanmefaaW.PrintMore
attribute [local go_sem] max2_int min2_int max_two min_two max_three min_three max_four min_four   -- for this text's walks alone
set_option linter.unusedVariables false
set_option linter.unusedSimpArgs false

def prebendref19_Mask.l0 : Nat → List (S32) → Int → Int → Option (Int)
  | 0, _, _, _ => none
  | k + 1, x0, x3, x4 => if x4 < (x0.length : Int) then (if 0 ≤ x4 then (if ((rd_T32 x0 x4).f7) = 3 then (prebendref19_Mask.l0 k x0 (Go.bits .or .i64 x3 ((rd_T32 x0 x4).f9)) (wrap64 (x4 + 1))) else (prebendref19_Mask.l0 k x0 x3 (wrap64 (x4 + 1)))) else (none)) else (some x3)
def prebendref19_Mask.f (k : Nat) (l0 : List (S32)) : Option (Int) := prebendref19_Mask.l0 k l0 0 0
theorem prebendref19_Mask.mono_l : ∀ k, (∀ y0 y1 y2, LeO (prebendref19_Mask.l0 k y0 y1 y2) (prebendref19_Mask.l0 (k + 1) y0 y1 y2))
  | 0 => fun _ _ _ r h => by simp [prebendref19_Mask.l0] at h
  | k + 1 => by
    have ih0 := prebendref19_Mask.mono_l k
    · intro y0 y1 y2
      unfold prebendref19_Mask.l0
      repeat' first
      | (with_reducible exact ih0 _ _ _)
      | (with_reducible exact LeO.refl _)
      | (with_reducible exact LeO.none _)
      | (with_reducible refine LeO.ite ?_ ?_)
      | (with_reducible refine LeO.bind ?_ (fun _ => ?_))
      | exact ih0 _ _ _
      | exact LeO.none _
      | refine LeO.ite ?_ ?_
      | refine LeO.bind ?_ (fun _ => ?_)
theorem prebendref19_Mask.mono : ∀ a0 k, LeO (prebendref19_Mask.f k a0) (prebendref19_Mask.f (k + 1) a0) := by
  intro a0 k
  have ih0 := prebendref19_Mask.mono_l k
  unfold prebendref19_Mask.f
  repeat' first
      | (with_reducible exact ih0 _ _ _)
      | (with_reducible exact LeO.refl _)
      | (with_reducible exact LeO.none _)
      | (with_reducible refine LeO.ite ?_ ?_)
      | (with_reducible refine LeO.bind ?_ (fun _ => ?_))
      | exact ih0 _ _ _
      | exact LeO.none _
      | refine LeO.ite ?_ ?_
      | refine LeO.bind ?_ (fun _ => ?_)
set_option maxHeartbeats 8000000 in
set_option maxRecDepth 100000 in
theorem prebendref19_Mask.calls (k : Nat) (A0 : Option Addr) (c0 : Nat) (l0 : List (S32)) (r : Int) (w : World) (hr0 : Kd.C k32 w A0 l0.length l0) (hc0 : l0.length ≤ c0) (h : prebendref19_Mask.f k l0 = some r) :
    Calls Try.prog 20 #[.slice A0 l0.length c0] w fun e w' => e = .returned (.int .i64 r) ∧ Drawn0 w w' := by
  have HR0 := Aside0.mk hr0
  have HC0 := Aside0.mk hc0
  clear hr0 hc0
  have H : (prebendref19_Mask.l0 k l0 0 0) = some r := h
  clear h
  have H' := Aside0.mk H
  clear H
  go_enter Try.func20, Try.ntmps20
  go_wp2
  go_loopg [3, 4] k (fun kq v3 v4 w' => ∃ (x3_1 : Int) (x4_1 : Int), v3 = .int .i64 x3_1 ∧ v4 = .int .i64 x4_1 ∧ Aside0 (prebendref19_Mask.l0 kq l0 x3_1 x4_1 = some r) ∧ Aside0 (kq ≤ k) ∧ Drawn0 w w')
  case atStart => exact ⟨(0), (0), (by first | rfl | (simp; done) | (simp [*]; done)), (by first | rfl | (simp; done) | (simp [*]; done)), H', ⟨Nat.le_refl _⟩, by repeat (first | exact Drawn0.refl _ | apply Drawn0.step)⟩
  case round =>
    clear H'
    obtain ⟨x3_1, x4_1, rfl, rfl, HA, HK1, ⟨m1, rfl⟩⟩ := hrel
    cases gk with
    | zero => exact absurd HA.out (by simp [prebendref19_Mask.l0])
    | succ k1 =>
      have H := HA.out
      clear HA
      simp only [prebendref19_Mask.l0] at H
      by_cases c2 : x4_1 < (l0.length : Int)
      · rw [if_pos c2] at H
        have c2b0 : decide (x4_1 < (l0.length : Int)) = true := decide_eq_true c2
        clear c2
        by_cases c3 : 0 ≤ x4_1
        · rw [if_pos c3] at H
          have c3b0 : decide (0 ≤ x4_1) = true := decide_eq_true c3
          clear c3
          by_cases c4 : ((rd_T32 l0 x4_1).f7) = 3
          · rw [if_pos c4] at H
            have c4b0 : (((rd_T32 l0 x4_1).f7) == 3) = true := beq_iff_eq.mpr c4
            have c4b1 : (((rd_T32 l0 x4_1).f7) != 3) = false := bne_eq_false_iff_eq.mpr c4
            clear c4
            have H' := Aside0.mk H
            clear H
            have p349 : 0 ≤ (x4_1 : Int) := of_decide_eq_true (by first | (with_reducible assumption) | assumption)
            have q349 : x4_1 < (l0.length : Int) := of_decide_eq_true (by first | (with_reducible assumption) | assumption)
            obtain ⟨ad349, e349, hx349_0, hx349_1, hx349_2, hx349_3, hx349_4, hx349_5, hx349_6, hx349_7, hx349_8, hx349_9, hx349_10, hx349_11⟩ := at_T32 HR0.out x4_1 p349 q349
            cases e349
            replace p349 := eq_true p349
            replace q349 := eq_true q349
            have p350 : 0 ≤ (x4_1 : Int) := of_decide_eq_true (by first | (with_reducible assumption) | assumption)
            have q350 : x4_1 < (l0.length : Int) := of_decide_eq_true (by first | (with_reducible assumption) | assumption)
            obtain ⟨ad350, e350, hx350_0, hx350_1, hx350_2, hx350_3, hx350_4, hx350_5, hx350_6, hx350_7, hx350_8, hx350_9, hx350_10, hx350_11⟩ := at_T32 HR0.out x4_1 p350 q350
            obtain rfl : ad349 = ad350 := (by injection e350)
            replace p350 := eq_true p350
            replace q350 := eq_true q350
            go_wp2
            go_roundg k1
            case measure => have := HK1.out; omega
            case rel => exact ⟨(Go.bits .or .i64 x3_1 ((rd_T32 l0 x4_1).f9)), (wrap64 (x4_1 + 1)), (by first | rfl | (simp; done) | (simp [*]; done)), (by first | rfl | (simp; done) | (simp [*]; done)), H', ⟨by have := HK1.out; omega⟩, by repeat (first | exact Drawn0.refl _ | apply Drawn0.step)⟩
          · rw [if_neg c4] at H
            have c4b0 : (((rd_T32 l0 x4_1).f7) == 3) = false := beq_eq_false_iff_ne.mpr c4
            have c4b1 : (((rd_T32 l0 x4_1).f7) != 3) = true := bne_iff_ne.mpr c4
            have H' := Aside0.mk H
            clear H
            have p349 : 0 ≤ (x4_1 : Int) := of_decide_eq_true (by first | (with_reducible assumption) | assumption)
            have q349 : x4_1 < (l0.length : Int) := of_decide_eq_true (by first | (with_reducible assumption) | assumption)
            obtain ⟨ad349, e349, hx349_0, hx349_1, hx349_2, hx349_3, hx349_4, hx349_5, hx349_6, hx349_7, hx349_8, hx349_9, hx349_10, hx349_11⟩ := at_T32 HR0.out x4_1 p349 q349
            cases e349
            replace p349 := eq_true p349
            replace q349 := eq_true q349
            go_wp2
            go_roundg k1
            case measure => have := HK1.out; omega
            case rel => exact ⟨(x3_1), (wrap64 (x4_1 + 1)), (by first | rfl | (simp; done) | (simp [*]; done)), (by first | rfl | (simp; done) | (simp [*]; done)), H', ⟨by have := HK1.out; omega⟩, by repeat (first | exact Drawn0.refl _ | apply Drawn0.step)⟩
        · rw [if_neg c3] at H
          exact absurd H (by simp)
      · rw [if_neg c2] at H
        have c2b0 : decide (x4_1 < (l0.length : Int)) = false := decide_eq_false c2
        clear c2
        obtain rfl := Option.some.inj H
        go_wp2
        go_ret
        exact ⟨by first | rfl | (simp; done) | (simp [*]; done), by repeat (first | exact Drawn0.refl _ | apply Drawn0.step)⟩

end Go.Proofs.Ytkhfgflcanmefaa.PAll
end
section
namespace Go.Proofs.Ytkhfgflcanmefaa.PAll
open Go.RowKit Go.Proofs.YtkhfgflcanmefaaW.PrintWords Go.Proofs.YtkhfgflcanmefaaW.PrintLast Go.Proofs.YtkhfgflcanmefaaW.PrintMore
attribute [local go_sem] max2_int min2_int max_two min_two max_three min_three max_four min_four   -- for this text's walks alone
set_option linter.unusedVariables false
set_option linter.unusedSimpArgs false

def prebendref19_Busy.l0 : Nat → List (S32) → List (S59) → Int → Option ((List (S59)))
 | 0, _, _, _ => none
 | k + 1, x0, x3, x4 => if x4 < (x0.length : Int) then (if 0 ≤ x4 then (if ((rd_T32 x0 x4).f7) = 3 then (if x3.length < 8796093022208 then (prebendref19_Busy.l0 k x0 (x3 ++ [(⟨wrap64 (((rd_T32 x0 x4).f8) + ((rd_T32 x0 x4).f3)), (rd_T32 x0 x4).f2⟩ : S59)]) (wrap64 (x4 + 1))) else (none)) else (prebendref19_Busy.l0 k x0 x3 (wrap64 (x4 + 1)))) else (none)) else (some x3)
def prebendref19_Busy.f (k : Nat) (l0 : List (S32)) : Option ((List (S59))) := prebendref19_Busy.l0 k l0 (([] : List (S59))) 0
theorem prebendref19_Busy.mono_l : ∀ k, (∀ y0 y1 y2, LeO (prebendref19_Busy.l0 k y0 y1 y2) (prebendref19_Busy.l0 (k + 1) y0 y1 y2))
 | 0 => fun _ _ _ r h => by simp [prebendref19_Busy.l0] at h
 | k + 1 => by
  have ih0 := prebendref19_Busy.mono_l k
  ·intro y0 y1 y2
   unfold prebendref19_Busy.l0
   repeat' first
   | (with_reducible exact ih0 _ _ _)
   | (with_reducible exact LeO.refl _)
   | (with_reducible exact LeO.none _)
   | (with_reducible refine LeO.ite ?_ ?_)
   | (with_reducible refine LeO.bind ?_ (fun _ => ?_))
   | exact ih0 _ _ _
   | exact LeO.none _
   | refine LeO.ite ?_ ?_
   | refine LeO.bind ?_ (fun _ => ?_)
theorem prebendref19_Busy.mono : ∀ a0 k, LeO (prebendref19_Busy.f k a0) (prebendref19_Busy.f (k + 1) a0) := by
 intro a0 k
 have ih0 := prebendref19_Busy.mono_l k
 unfold prebendref19_Busy.f
 repeat' first
   | (with_reducible exact ih0 _ _ _)
   | (with_reducible exact LeO.refl _)
   | (with_reducible exact LeO.none _)
   | (with_reducible refine LeO.ite ?_ ?_)
   | (with_reducible refine LeO.bind ?_ (fun _ => ?_))
   | exact ih0 _ _ _
   | exact LeO.none _
   | refine LeO.ite ?_ ?_
   | refine LeO.bind ?_ (fun _ => ?_)
def prebendref19_Busy.T6 : Bool × List (List Nat × List Nat) := (true, [([], []), ([], []), ([], []), ([1, 2], [1, 2]), ([3], [3]), ([4], [4]), ([], []), ([], []), ([6, 7], [6, 7]), ([8], [8]), ([9], [9]), ([5, 10], [5, 10]), ([], []), ([], []), ([12, 13], [12, 13]), ([14], [14]), ([15], [15]), ([11, 16], [11, 16]), ([17], [17]), ([0, 18], [0, 18]), ([19, 19, 0, 1, 2, 3, 4, 5, 6, 7, 8, 9, 10, 11, 12, 13, 14, 15, 16, 17, 18, 19], [0, 19])])
def prebendref19_Busy.B6 : List Nat := [0, 0, 0, 6, 14, 30, 0, 0, 192, 448, 960, 2046, 0, 0, 12288, 28672, 61440, 131070, 262142, 524287, 1048575]
theorem prebendref19_Busy.tab6 : rtab .any (opsOf Try.f23 6) = prebendref19_Busy.T6 := by kernel_rfl
theorem prebendref19_Busy.bits6 : waitsOk prebendref19_Busy.T6.2 prebendref19_Busy.B6 = true := by kernel_rfl
set_option maxHeartbeats 8000000 in
set_option maxRecDepth 100000 in
theorem prebendref19_Busy.calls (k : Nat) (A0 : Option Addr) (c0 : Nat) (l0 : List (S32)) (r : List (S59)) (w : World) (hr0 : Kd.C k32 w A0 l0.length l0) (hc0 : l0.length ≤ c0) (h : prebendref19_Busy.f k l0 = some r) :
  Calls Try.prog 23 #[.slice A0 l0.length c0] w fun e w' => ∃ v0_ : Value, e = .returned (v0_) ∧ Kd.R k59 59 w' w.heap.size (fun _ => True) v0_ r ∧ Below w.heap.size w w' := by
 have hu59 := Try.underlying59
 have HR0 := Aside0.mk hr0
 have HC0 := Aside0.mk hc0
 clear hr0; clear hc0
 have HB := Aside0.mk (Below.refl w.heap.size w)
 have H : (prebendref19_Busy.l0 k l0 (([] : List (S59))) 0) = some r := h
 clear h
 obtain ⟨y351, hy351⟩ : ∃ y_ : List (S59), y_ = (([] : List (S59))) := ⟨_, rfl⟩
 replace H : (prebendref19_Busy.l0 k l0 y351 0) = some r := mH hy351 H
 have Ny351 := Aside0.mk hy351
 clear hy351
 have H' := Aside0.mk H
 clear H
 go_enter Try.func23, Try.ntmps23
 go_wp2_with (first | ((with_reducible refine gate_dst (N := 5) rfl ?_); refine Kd.R_lit k59 _ 59 ?hg (N := 5) ?hd (xs := ([] : List (S59))) (inner := []) (ok := fun _ => True) (okp := fun _ => True) ?hr ?hp (fun _ hk => hk) trivial (Below.refl _ _) (Nat.le_refl _) (by simp) ?_; (case hd => rfl); (case hg => rfl); (case hr => first | (go_simp; done) | (go_simp; rfl)); (case hp => exact (Reps.none _ _)); intro v352 w2 ho3 hb hg_ hnew_; clear hg_ hnew_; (first | rw [← Ny351.out] at ho3 | (simp only [Int.reduceToNat] at ho3; rw [← Ny351.out] at ho3)); have n0_ := Aside0.mk (Kd.R_lower ho3 (below_size (mB HB.out))); have n1_ := Aside0.mk (below_step (mB HB.out) hb); clear HB; have HO353 := n0_; have HB := n1_; clear n0_ n1_; clear hb ho3))
 go_loopg [3, 4] k (fun kq v3 v4 w' => ∃ (x3_1 : List (S59)) (x4_1 : Int), v4 = .int .i64 x4_1 ∧ Aside0 (prebendref19_Busy.l0 kq l0 x3_1 x4_1 = some r) ∧ Aside0 (kq ≤ k) ∧ Aside0 (Kd.R k59 59 w' w.heap.size (fun _ => True) v3 x3_1) ∧ Aside0 (Below w.heap.size w w'))
 case atStart => exact ⟨(y351), (0), ez, H', ⟨Nat.le_refl _⟩, ⟨mR HO353.out⟩, ⟨mB HB.out⟩⟩
 case round =>
  clear H'
  (try clear c2); (try clear p2)
  obtain ⟨x3_1, x4_1, rfl, HA, HK1, HO_3, HB⟩ := hrel
  cases gk with
  | zero => exact absurd HA.out (by simp [prebendref19_Busy.l0])
  | succ k1 =>
   have H := HA.out
   clear HA
   simp only [prebendref19_Busy.l0] at H
   by_cases c4 : x4_1 < (l0.length : Int)
   ·rw [if_pos c4] at H
    have c4b0 : decide (x4_1 < (l0.length : Int)) = true := decide_eq_true c4
    clear c4
    by_cases c5 : 0 ≤ x4_1
    ·rw [if_pos c5] at H
     have c5b0 : decide (0 ≤ x4_1) = true := decide_eq_true c5
     clear c5
     by_cases c6 : ((rd_T32 l0 x4_1).f7) = 3
     ·rw [if_pos c6] at H
      have c6b0 : (((rd_T32 l0 x4_1).f7) == 3) = true := beq_iff_eq.mpr c6
      have c6b1 : (((rd_T32 l0 x4_1).f7) != 3) = false := bne_eq_false_iff_eq.mpr c6
      clear c6
      by_cases c7 : x3_1.length < 8796093022208
      ·rw [if_pos c7] at H
       have LMc7 := Aside0.mk c7
       clear c7
       obtain ⟨y358, hy358⟩ : ∃ y_ : List (S59), y_ = (x3_1 ++ [(⟨wrap64 (((rd_T32 l0 x4_1).f8) + ((rd_T32 l0 x4_1).f3)), (rd_T32 l0 x4_1).f2⟩ : S59)]) := ⟨_, rfl⟩
       replace H : (prebendref19_Busy.l0 k1 l0 y358 (wrap64 (x4_1 + 1))) = some r := mH hy358 H
       have Ny358 := Aside0.mk hy358
       clear hy358
       have H' := Aside0.mk H
       clear H
       have p354 : 0 ≤ (x4_1 : Int) := oda
       have q354 : x4_1 < (l0.length : Int) := oda
       obtain ⟨ad354, e354, hx354_0, hx354_1, hx354_2, hx354_3, hx354_4, hx354_5, hx354_6, hx354_7, hx354_8, hx354_9, hx354_10, hx354_11⟩ := at_T32 HR0.out x4_1 p354 q354
       cases e354
       replace hx354_0 := hs_ HB.out hx354_0
       replace hx354_1 := hs_ HB.out hx354_1
       replace hx354_2 := hs_ HB.out hx354_2
       replace hx354_3 := hs_ HB.out hx354_3
       replace hx354_4 := hs_ HB.out hx354_4
       replace hx354_5 := hs_ HB.out hx354_5
       replace hx354_6 := hs_ HB.out hx354_6
       replace hx354_7 := hs_ HB.out hx354_7
       replace hx354_8 := hs_ HB.out hx354_8
       replace hx354_9 := hs_ HB.out hx354_9
       replace hx354_10 := hs_ HB.out hx354_10
       replace hx354_11 := hs_ HB.out hx354_11
       replace p354 := eq_true p354
       replace q354 := eq_true q354
       try go_wp2
       have n0_ := Aside0.mk (Kd.R_drew HO_3.out)
       have n1_ := Aside0.mk (below_drew1 HB.out)
       clear HO_3; clear HB
       have HO_3 := n0_
       have HB := n1_
       clear n0_; clear n1_
       have p355 : 0 ≤ (x4_1 : Int) := oda
       have q355 : x4_1 < (l0.length : Int) := oda
       obtain ⟨ad355, e355, hx355_0, hx355_1, hx355_2, hx355_3, hx355_4, hx355_5, hx355_6, hx355_7, hx355_8, hx355_9, hx355_10, hx355_11⟩ := at_T32 HR0.out x4_1 p355 q355
       have hw355_11 := hx355_11
       have hw355_10 := hx355_10
       have hw355_9 := hx355_9
       have hw355_8 := hx355_8
       have hw355_7 := hx355_7
       have hw355_6 := hx355_6
       have hw355_5 := hx355_5
       have hw355_4 := hx355_4
       have hw355_3 := hx355_3
       have hw355_2 := hx355_2
       have hw355_1 := hx355_1
       have hw355_0 := hx355_0
       obtain rfl : ad354 = ad355 := (by injection e355)
       replace hx355_0 := hs_ HB.out hx355_0
       replace hx355_1 := hs_ HB.out hx355_1
       replace hx355_2 := hs_ HB.out hx355_2
       replace hx355_3 := hs_ HB.out hx355_3
       replace hx355_4 := hs_ HB.out hx355_4
       replace hx355_5 := hs_ HB.out hx355_5
       replace hx355_6 := hs_ HB.out hx355_6
       replace hx355_7 := hs_ HB.out hx355_7
       replace hx355_8 := hs_ HB.out hx355_8
       replace hx355_9 := hs_ HB.out hx355_9
       replace hx355_10 := hs_ HB.out hx355_10
       replace hx355_11 := hs_ HB.out hx355_11
       replace p355 := eq_true p355
       replace q355 := eq_true q355
       have p356 : 0 ≤ (x4_1 : Int) := oda
       have q356 : x4_1 < (l0.length : Int) := oda
       obtain ⟨ad356, e356, hx356_0, hx356_1, hx356_2, hx356_3, hx356_4, hx356_5, hx356_6, hx356_7, hx356_8, hx356_9, hx356_10, hx356_11⟩ := at_T32 HR0.out x4_1 p356 q356
       have hw356_11 := hx356_11
       have hw356_10 := hx356_10
       have hw356_9 := hx356_9
       have hw356_8 := hx356_8
       have hw356_7 := hx356_7
       have hw356_6 := hx356_6
       have hw356_5 := hx356_5
       have hw356_4 := hx356_4
       have hw356_3 := hx356_3
       have hw356_2 := hx356_2
       have hw356_1 := hx356_1
       have hw356_0 := hx356_0
       obtain rfl : ad354 = ad356 := (by injection e356)
       replace hx356_0 := hs_ HB.out hx356_0
       replace hx356_1 := hs_ HB.out hx356_1
       replace hx356_2 := hs_ HB.out hx356_2
       replace hx356_3 := hs_ HB.out hx356_3
       replace hx356_4 := hs_ HB.out hx356_4
       replace hx356_5 := hs_ HB.out hx356_5
       replace hx356_6 := hs_ HB.out hx356_6
       replace hx356_7 := hs_ HB.out hx356_7
       replace hx356_8 := hs_ HB.out hx356_8
       replace hx356_9 := hs_ HB.out hx356_9
       replace hx356_10 := hs_ HB.out hx356_10
       replace hx356_11 := hs_ HB.out hx356_11
       replace p356 := eq_true p356
       replace q356 := eq_true q356
       have p357 : 0 ≤ (x4_1 : Int) := oda
       have q357 : x4_1 < (l0.length : Int) := oda
       obtain ⟨ad357, e357, hx357_0, hx357_1, hx357_2, hx357_3, hx357_4, hx357_5, hx357_6, hx357_7, hx357_8, hx357_9, hx357_10, hx357_11⟩ := at_T32 HR0.out x4_1 p357 q357
       have hw357_11 := hx357_11
       have hw357_10 := hx357_10
       have hw357_9 := hx357_9
       have hw357_8 := hx357_8
       have hw357_7 := hx357_7
       have hw357_6 := hx357_6
       have hw357_5 := hx357_5
       have hw357_4 := hx357_4
       have hw357_3 := hx357_3
       have hw357_2 := hx357_2
       have hw357_1 := hx357_1
       have hw357_0 := hx357_0
       obtain rfl : ad354 = ad357 := (by injection e357)
       replace hx357_0 := hs_ HB.out hx357_0
       replace hx357_1 := hs_ HB.out hx357_1
       replace hx357_2 := hs_ HB.out hx357_2
       replace hx357_3 := hs_ HB.out hx357_3
       replace hx357_4 := hs_ HB.out hx357_4
       replace hx357_5 := hs_ HB.out hx357_5
       replace hx357_6 := hs_ HB.out hx357_6
       replace hx357_7 := hs_ HB.out hx357_7
       replace hx357_8 := hs_ HB.out hx357_8
       replace hx357_9 := hs_ HB.out hx357_9
       replace hx357_10 := hs_ HB.out hx357_10
       replace hx357_11 := hs_ HB.out hx357_11
       replace p357 := eq_true p357
       replace q357 := eq_true q357
       refine start_ (n := 21) (S := fun w' => c12 w' (ad354.add ((x4_1).toNat * 12)) (rd_T32 l0 x4_1) <| c12 w' (ad354.add ((x4_1).toNat * 12)) (rd_T32 l0 x4_1) <| c12e w' (ad354.add ((x4_1).toNat * 12)) (rd_T32 l0 x4_1)) (ds := []) #[false, false, false, false, false, false, false, false, false, false, false, false, false, false, false, false, false, false, false, false, false] (by kernel_rfl) rfl rfl ⟨((HB.out.cell (World.block_lt_of_cell? w _ hw355_0)).trans hw355_0), ((HB.out.cell (World.block_lt_of_cell? w _ hw355_1)).trans hw355_1), ((HB.out.cell (World.block_lt_of_cell? w _ hw355_2)).trans hw355_2), ((HB.out.cell (World.block_lt_of_cell? w _ hw355_3)).trans hw355_3), ((HB.out.cell (World.block_lt_of_cell? w _ hw355_4)).trans hw355_4), ((HB.out.cell (World.block_lt_of_cell? w _ hw355_5)).trans hw355_5), ((HB.out.cell (World.block_lt_of_cell? w _ hw355_6)).trans hw355_6), ((HB.out.cell (World.block_lt_of_cell? w _ hw355_7)).trans hw355_7), ((HB.out.cell (World.block_lt_of_cell? w _ hw355_8)).trans hw355_8), ((HB.out.cell (World.block_lt_of_cell? w _ hw355_9)).trans hw355_9), ((HB.out.cell (World.block_lt_of_cell? w _ hw355_10)).trans hw355_10), ((HB.out.cell (World.block_lt_of_cell? w _ hw355_11)).trans hw355_11), ((HB.out.cell (World.block_lt_of_cell? w _ hw356_0)).trans hw356_0), ((HB.out.cell (World.block_lt_of_cell? w _ hw356_1)).trans hw356_1), ((HB.out.cell (World.block_lt_of_cell? w _ hw356_2)).trans hw356_2), ((HB.out.cell (World.block_lt_of_cell? w _ hw356_3)).trans hw356_3), ((HB.out.cell (World.block_lt_of_cell? w _ hw356_4)).trans hw356_4), ((HB.out.cell (World.block_lt_of_cell? w _ hw356_5)).trans hw356_5), ((HB.out.cell (World.block_lt_of_cell? w _ hw356_6)).trans hw356_6), ((HB.out.cell (World.block_lt_of_cell? w _ hw356_7)).trans hw356_7), ((HB.out.cell (World.block_lt_of_cell? w _ hw356_8)).trans hw356_8), ((HB.out.cell (World.block_lt_of_cell? w _ hw356_9)).trans hw356_9), ((HB.out.cell (World.block_lt_of_cell? w _ hw356_10)).trans hw356_10), ((HB.out.cell (World.block_lt_of_cell? w _ hw356_11)).trans hw356_11), ((HB.out.cell (World.block_lt_of_cell? w _ hw357_0)).trans hw357_0), ((HB.out.cell (World.block_lt_of_cell? w _ hw357_1)).trans hw357_1), ((HB.out.cell (World.block_lt_of_cell? w _ hw357_2)).trans hw357_2), ((HB.out.cell (World.block_lt_of_cell? w _ hw357_3)).trans hw357_3), ((HB.out.cell (World.block_lt_of_cell? w _ hw357_4)).trans hw357_4), ((HB.out.cell (World.block_lt_of_cell? w _ hw357_5)).trans hw357_5), ((HB.out.cell (World.block_lt_of_cell? w _ hw357_6)).trans hw357_6), ((HB.out.cell (World.block_lt_of_cell? w _ hw357_7)).trans hw357_7), ((HB.out.cell (World.block_lt_of_cell? w _ hw357_8)).trans hw357_8), ((HB.out.cell (World.block_lt_of_cell? w _ hw357_9)).trans hw357_9), ((HB.out.cell (World.block_lt_of_cell? w _ hw357_10)).trans hw357_10), ((HB.out.cell (World.block_lt_of_cell? w _ hw357_11)).trans hw357_11)⟩ (fun hHeld => ?_); refine with_tabW prebendref19_Busy.tab6 prebendref19_Busy.bits6 (fun HT_ HW_ => ?_)
       generalize wr.drew = w8 at HO_3 HB hx355_0 hx355_1 hx355_10 hx355_11 hx355_2 hx355_3 hx355_4 hx355_5 hx355_6 hx355_7 hx355_8 hx355_9 hx356_0 hx356_1 hx356_10 hx356_11 hx356_2 hx356_3 hx356_4 hx356_5 hx356_6 hx356_7 hx356_8 hx356_9 hx357_0 hx357_1 hx357_10 hx357_11 hx357_2 hx357_3 hx357_4 hx357_5 hx357_6 hx357_7 hx357_8 hx357_9 hHeld ⊢
       refine plan_ [(0, 18), (1, 19), (2, 20), (3, 21), (4, 22), (6, 24), (7, 25), (8, 26), (9, 27), (12, 30), (13, 31), (14, 32), (15, 33)] ?_
       iterate 13 (refine planP_ (v := ?_) (a' := ?_) rfl rfl (any_of HT_.out (by kernel_rfl)) (fun _ _ _ h => h) (Or.inl ⟨by rfl, ?_⟩) ?_ ?_; rotate_left; (intro w'; go_simp; with_reducible rfl); rotate_left; (simp only [Act.put, List.setIfInBounds_toArray, List.set_cons_zero, List.set_cons_succ, i64_w, i32_w]; rfl))
       refine planEnd_ ?_
       refine plan_ [(5, 23), (10, 28)] ?_
       iterate 2 (refine planT_ (v := ?_) (a' := ?_) rfl rfl (take_ofW HT_.out HW_.out (by kernel_rfl)) (fun _ _ _ h => h) (Or.inl ⟨by rfl, ?_⟩) hHeld ?_ ?_; rotate_left; (rintro w' ⟨s0, s1, s2, s3, s4, s5, s6, s7, s8, s9, s10, s11, s12, s13, s14, s15, s16, s17, s18, s19, s20, s21, s22, s23, s24, s25, s26, s27, s28, s29, s30, s31, s32, s33, s34, s35⟩; go_simp; with_reducible rfl); rotate_left; (simp only [Act.put, List.setIfInBounds_toArray, List.set_cons_zero, List.set_cons_succ, i64_w, i32_w]; rfl))
       refine planEnd_ ?_
       refine plan_ [(11, 29)] ?_
       refine planP_ (v := ?_) (a' := ?_) rfl rfl (any_of HT_.out (by kernel_rfl)) (fun _ _ _ h => h) (Or.inl ⟨by rfl, ?_⟩) ?_ ?_; rotate_left; (intro w'; go_simp; with_reducible rfl); rotate_left; (simp only [Act.put, List.setIfInBounds_toArray, List.set_cons_zero, List.set_cons_succ, i64_w, i32_w]; rfl)
       refine planEnd_ ?_
       refine plan_ [(16, 34)] ?_
       refine planT_ (v := ?_) (a' := ?_) rfl rfl (take_ofW HT_.out HW_.out (by kernel_rfl)) (fun _ _ _ h => h) (Or.inl ⟨by rfl, ?_⟩) hHeld ?_ ?_; rotate_left; (rintro w' ⟨s0, s1, s2, s3, s4, s5, s6, s7, s8, s9, s10, s11, s12, s13, s14, s15, s16, s17, s18, s19, s20, s21, s22, s23, s24, s25, s26, s27, s28, s29, s30, s31, s32, s33, s34, s35⟩; go_simp; with_reducible rfl); rotate_left; (simp only [Act.put, List.setIfInBounds_toArray, List.set_cons_zero, List.set_cons_succ, i64_w, i32_w]; rfl)
       refine planEnd_ ?_
       refine plan_ [(17, 35)] ?_
       refine planP_ (v := ?_) (a' := ?_) rfl rfl (any_of HT_.out (by kernel_rfl)) (fun _ _ _ h => h) (Or.inl ⟨by rfl, ?_⟩) ?_ ?_; rotate_left; (intro w'; go_simp; with_reducible rfl); rotate_left; (simp only [Act.put, List.setIfInBounds_toArray, List.set_cons_zero, List.set_cons_succ, i64_w, i32_w]; rfl)
       refine planEnd_ ?_
       refine one_ (i := 18) (N := some 36) #[true, true, true, true, true, true, true, true, true, true, true, true, true, true, true, true, true, true, true, false, false] rfl rfl (one_of HT_.out (by kernel_rfl)) (by decide) (fun K hK => ?_)
       refine value_ (w1 := ?_) (v := ?_) (by rfl) rfl ?_ ?_
       rotate_left 2
       ·go_simp
        constructor
        ·rfl
        ·rfl
       refine hK.out _ _ ⟨(World.cell?_alloc_lt _ _ _ (World.block_lt_of_cell? _ _ (((HB.out.cell (World.block_lt_of_cell? w _ hw355_0)).trans hw355_0)))).trans (((HB.out.cell (World.block_lt_of_cell? w _ hw355_0)).trans hw355_0)), (World.cell?_alloc_lt _ _ _ (World.block_lt_of_cell? _ _ (((HB.out.cell (World.block_lt_of_cell? w _ hw355_1)).trans hw355_1)))).trans (((HB.out.cell (World.block_lt_of_cell? w _ hw355_1)).trans hw355_1)), (World.cell?_alloc_lt _ _ _ (World.block_lt_of_cell? _ _ (((HB.out.cell (World.block_lt_of_cell? w _ hw355_2)).trans hw355_2)))).trans (((HB.out.cell (World.block_lt_of_cell? w _ hw355_2)).trans hw355_2)), (World.cell?_alloc_lt _ _ _ (World.block_lt_of_cell? _ _ (((HB.out.cell (World.block_lt_of_cell? w _ hw355_3)).trans hw355_3)))).trans (((HB.out.cell (World.block_lt_of_cell? w _ hw355_3)).trans hw355_3)), (World.cell?_alloc_lt _ _ _ (World.block_lt_of_cell? _ _ (((HB.out.cell (World.block_lt_of_cell? w _ hw355_4)).trans hw355_4)))).trans (((HB.out.cell (World.block_lt_of_cell? w _ hw355_4)).trans hw355_4)), (World.cell?_alloc_lt _ _ _ (World.block_lt_of_cell? _ _ (((HB.out.cell (World.block_lt_of_cell? w _ hw355_5)).trans hw355_5)))).trans (((HB.out.cell (World.block_lt_of_cell? w _ hw355_5)).trans hw355_5)), (World.cell?_alloc_lt _ _ _ (World.block_lt_of_cell? _ _ (((HB.out.cell (World.block_lt_of_cell? w _ hw355_6)).trans hw355_6)))).trans (((HB.out.cell (World.block_lt_of_cell? w _ hw355_6)).trans hw355_6)), (World.cell?_alloc_lt _ _ _ (World.block_lt_of_cell? _ _ (((HB.out.cell (World.block_lt_of_cell? w _ hw355_7)).trans hw355_7)))).trans (((HB.out.cell (World.block_lt_of_cell? w _ hw355_7)).trans hw355_7)), (World.cell?_alloc_lt _ _ _ (World.block_lt_of_cell? _ _ (((HB.out.cell (World.block_lt_of_cell? w _ hw355_8)).trans hw355_8)))).trans (((HB.out.cell (World.block_lt_of_cell? w _ hw355_8)).trans hw355_8)), (World.cell?_alloc_lt _ _ _ (World.block_lt_of_cell? _ _ (((HB.out.cell (World.block_lt_of_cell? w _ hw355_9)).trans hw355_9)))).trans (((HB.out.cell (World.block_lt_of_cell? w _ hw355_9)).trans hw355_9)), (World.cell?_alloc_lt _ _ _ (World.block_lt_of_cell? _ _ (((HB.out.cell (World.block_lt_of_cell? w _ hw355_10)).trans hw355_10)))).trans (((HB.out.cell (World.block_lt_of_cell? w _ hw355_10)).trans hw355_10)), (World.cell?_alloc_lt _ _ _ (World.block_lt_of_cell? _ _ (((HB.out.cell (World.block_lt_of_cell? w _ hw355_11)).trans hw355_11)))).trans (((HB.out.cell (World.block_lt_of_cell? w _ hw355_11)).trans hw355_11)), (World.cell?_alloc_lt _ _ _ (World.block_lt_of_cell? _ _ (((HB.out.cell (World.block_lt_of_cell? w _ hw356_0)).trans hw356_0)))).trans (((HB.out.cell (World.block_lt_of_cell? w _ hw356_0)).trans hw356_0)), (World.cell?_alloc_lt _ _ _ (World.block_lt_of_cell? _ _ (((HB.out.cell (World.block_lt_of_cell? w _ hw356_1)).trans hw356_1)))).trans (((HB.out.cell (World.block_lt_of_cell? w _ hw356_1)).trans hw356_1)), (World.cell?_alloc_lt _ _ _ (World.block_lt_of_cell? _ _ (((HB.out.cell (World.block_lt_of_cell? w _ hw356_2)).trans hw356_2)))).trans (((HB.out.cell (World.block_lt_of_cell? w _ hw356_2)).trans hw356_2)), (World.cell?_alloc_lt _ _ _ (World.block_lt_of_cell? _ _ (((HB.out.cell (World.block_lt_of_cell? w _ hw356_3)).trans hw356_3)))).trans (((HB.out.cell (World.block_lt_of_cell? w _ hw356_3)).trans hw356_3)), (World.cell?_alloc_lt _ _ _ (World.block_lt_of_cell? _ _ (((HB.out.cell (World.block_lt_of_cell? w _ hw356_4)).trans hw356_4)))).trans (((HB.out.cell (World.block_lt_of_cell? w _ hw356_4)).trans hw356_4)), (World.cell?_alloc_lt _ _ _ (World.block_lt_of_cell? _ _ (((HB.out.cell (World.block_lt_of_cell? w _ hw356_5)).trans hw356_5)))).trans (((HB.out.cell (World.block_lt_of_cell? w _ hw356_5)).trans hw356_5)), (World.cell?_alloc_lt _ _ _ (World.block_lt_of_cell? _ _ (((HB.out.cell (World.block_lt_of_cell? w _ hw356_6)).trans hw356_6)))).trans (((HB.out.cell (World.block_lt_of_cell? w _ hw356_6)).trans hw356_6)), (World.cell?_alloc_lt _ _ _ (World.block_lt_of_cell? _ _ (((HB.out.cell (World.block_lt_of_cell? w _ hw356_7)).trans hw356_7)))).trans (((HB.out.cell (World.block_lt_of_cell? w _ hw356_7)).trans hw356_7)), (World.cell?_alloc_lt _ _ _ (World.block_lt_of_cell? _ _ (((HB.out.cell (World.block_lt_of_cell? w _ hw356_8)).trans hw356_8)))).trans (((HB.out.cell (World.block_lt_of_cell? w _ hw356_8)).trans hw356_8)), (World.cell?_alloc_lt _ _ _ (World.block_lt_of_cell? _ _ (((HB.out.cell (World.block_lt_of_cell? w _ hw356_9)).trans hw356_9)))).trans (((HB.out.cell (World.block_lt_of_cell? w _ hw356_9)).trans hw356_9)), (World.cell?_alloc_lt _ _ _ (World.block_lt_of_cell? _ _ (((HB.out.cell (World.block_lt_of_cell? w _ hw356_10)).trans hw356_10)))).trans (((HB.out.cell (World.block_lt_of_cell? w _ hw356_10)).trans hw356_10)), (World.cell?_alloc_lt _ _ _ (World.block_lt_of_cell? _ _ (((HB.out.cell (World.block_lt_of_cell? w _ hw356_11)).trans hw356_11)))).trans (((HB.out.cell (World.block_lt_of_cell? w _ hw356_11)).trans hw356_11)), (World.cell?_alloc_lt _ _ _ (World.block_lt_of_cell? _ _ (((HB.out.cell (World.block_lt_of_cell? w _ hw357_0)).trans hw357_0)))).trans (((HB.out.cell (World.block_lt_of_cell? w _ hw357_0)).trans hw357_0)), (World.cell?_alloc_lt _ _ _ (World.block_lt_of_cell? _ _ (((HB.out.cell (World.block_lt_of_cell? w _ hw357_1)).trans hw357_1)))).trans (((HB.out.cell (World.block_lt_of_cell? w _ hw357_1)).trans hw357_1)), (World.cell?_alloc_lt _ _ _ (World.block_lt_of_cell? _ _ (((HB.out.cell (World.block_lt_of_cell? w _ hw357_2)).trans hw357_2)))).trans (((HB.out.cell (World.block_lt_of_cell? w _ hw357_2)).trans hw357_2)), (World.cell?_alloc_lt _ _ _ (World.block_lt_of_cell? _ _ (((HB.out.cell (World.block_lt_of_cell? w _ hw357_3)).trans hw357_3)))).trans (((HB.out.cell (World.block_lt_of_cell? w _ hw357_3)).trans hw357_3)), (World.cell?_alloc_lt _ _ _ (World.block_lt_of_cell? _ _ (((HB.out.cell (World.block_lt_of_cell? w _ hw357_4)).trans hw357_4)))).trans (((HB.out.cell (World.block_lt_of_cell? w _ hw357_4)).trans hw357_4)), (World.cell?_alloc_lt _ _ _ (World.block_lt_of_cell? _ _ (((HB.out.cell (World.block_lt_of_cell? w _ hw357_5)).trans hw357_5)))).trans (((HB.out.cell (World.block_lt_of_cell? w _ hw357_5)).trans hw357_5)), (World.cell?_alloc_lt _ _ _ (World.block_lt_of_cell? _ _ (((HB.out.cell (World.block_lt_of_cell? w _ hw357_6)).trans hw357_6)))).trans (((HB.out.cell (World.block_lt_of_cell? w _ hw357_6)).trans hw357_6)), (World.cell?_alloc_lt _ _ _ (World.block_lt_of_cell? _ _ (((HB.out.cell (World.block_lt_of_cell? w _ hw357_7)).trans hw357_7)))).trans (((HB.out.cell (World.block_lt_of_cell? w _ hw357_7)).trans hw357_7)), (World.cell?_alloc_lt _ _ _ (World.block_lt_of_cell? _ _ (((HB.out.cell (World.block_lt_of_cell? w _ hw357_8)).trans hw357_8)))).trans (((HB.out.cell (World.block_lt_of_cell? w _ hw357_8)).trans hw357_8)), (World.cell?_alloc_lt _ _ _ (World.block_lt_of_cell? _ _ (((HB.out.cell (World.block_lt_of_cell? w _ hw357_9)).trans hw357_9)))).trans (((HB.out.cell (World.block_lt_of_cell? w _ hw357_9)).trans hw357_9)), (World.cell?_alloc_lt _ _ _ (World.block_lt_of_cell? _ _ (((HB.out.cell (World.block_lt_of_cell? w _ hw357_10)).trans hw357_10)))).trans (((HB.out.cell (World.block_lt_of_cell? w _ hw357_10)).trans hw357_10)), (World.cell?_alloc_lt _ _ _ (World.block_lt_of_cell? _ _ (((HB.out.cell (World.block_lt_of_cell? w _ hw357_11)).trans hw357_11)))).trans (((HB.out.cell (World.block_lt_of_cell? w _ hw357_11)).trans hw357_11))⟩ (fun hHeld => ?_)
       clear hK; clear K
       refine norm_ (a' := ?_) ?_ ?_
       rotate_left
       ·show Act.put _ (some 36) _ = _
        simp only [Act.put, List.setIfInBounds_toArray, List.set_cons_zero, List.set_cons_succ, i64_w, i32_w]
        rfl
       refine one_ (i := 19) (N := some 37) #[true, true, true, true, true, true, true, true, true, true, true, true, true, true, true, true, true, true, true, true, false] rfl rfl (one_of HT_.out (by kernel_rfl)) (by decide) (fun K hK => ?_)
       refine Kd.R_append_step k59 (w0 := w) w.heap.size (by rfl) (.tmp 18) (.tmp 36) 40 59 (.agg #[(.int .i64 0), (.int .i64 0)]) 16 rfl Try.underlying40 info59 rfl (by decide) (by omega) u3 x3_1 (⟨wrap64 (((rd_T32 l0 x4_1).f8) + ((rd_T32 l0 x4_1).f3)), (rd_T32 l0 x4_1).f2⟩ : S59) [.int .i64 (wrap64 (((rd_T32 l0 x4_1).f8) + ((rd_T32 l0 x4_1).f3))), .int .i64 ((rd_T32 l0 x4_1).f2)] (fun _ => True) (fun _ => False) rfl rfl ?aP (fun _ hk => hk.elim) ?aF ?aO ?aB ?aS ?aL ?_
       (case aP => exact k59_mkM _ _ _ (⟨wrap64 (((rd_T32 l0 x4_1).f8) + ((rd_T32 l0 x4_1).f3)), (rd_T32 l0 x4_1).f2⟩ : S59))
       (case aB => exact (mB HB.out))
       (case aF => exact (fun _ _ => trivial))
       (case aO => exact (mR HO_3.out))
       (case aS => exact (below_size (mB HB.out)))
       (case aL => have := LMc7.out; omega)
       intro v359 w9 ho hb hg hat
       rw [← Ny358.out] at ho
       have n0_ := Aside0.mk (hb)
       have n1_ := Aside0.mk (ho)
       clear HB; clear HO_3
       have HB := n0_
       have HO360 := n1_
       clear n0_; clear n1_; clear ho; clear hb; clear hg; clear hat
       refine hK.out _ _ ⟨((HB.out.cell (World.block_lt_of_cell? w _ hw355_0)).trans hw355_0), ((HB.out.cell (World.block_lt_of_cell? w _ hw355_1)).trans hw355_1), ((HB.out.cell (World.block_lt_of_cell? w _ hw355_2)).trans hw355_2), ((HB.out.cell (World.block_lt_of_cell? w _ hw355_3)).trans hw355_3), ((HB.out.cell (World.block_lt_of_cell? w _ hw355_4)).trans hw355_4), ((HB.out.cell (World.block_lt_of_cell? w _ hw355_5)).trans hw355_5), ((HB.out.cell (World.block_lt_of_cell? w _ hw355_6)).trans hw355_6), ((HB.out.cell (World.block_lt_of_cell? w _ hw355_7)).trans hw355_7), ((HB.out.cell (World.block_lt_of_cell? w _ hw355_8)).trans hw355_8), ((HB.out.cell (World.block_lt_of_cell? w _ hw355_9)).trans hw355_9), ((HB.out.cell (World.block_lt_of_cell? w _ hw355_10)).trans hw355_10), ((HB.out.cell (World.block_lt_of_cell? w _ hw355_11)).trans hw355_11), ((HB.out.cell (World.block_lt_of_cell? w _ hw356_0)).trans hw356_0), ((HB.out.cell (World.block_lt_of_cell? w _ hw356_1)).trans hw356_1), ((HB.out.cell (World.block_lt_of_cell? w _ hw356_2)).trans hw356_2), ((HB.out.cell (World.block_lt_of_cell? w _ hw356_3)).trans hw356_3), ((HB.out.cell (World.block_lt_of_cell? w _ hw356_4)).trans hw356_4), ((HB.out.cell (World.block_lt_of_cell? w _ hw356_5)).trans hw356_5), ((HB.out.cell (World.block_lt_of_cell? w _ hw356_6)).trans hw356_6), ((HB.out.cell (World.block_lt_of_cell? w _ hw356_7)).trans hw356_7), ((HB.out.cell (World.block_lt_of_cell? w _ hw356_8)).trans hw356_8), ((HB.out.cell (World.block_lt_of_cell? w _ hw356_9)).trans hw356_9), ((HB.out.cell (World.block_lt_of_cell? w _ hw356_10)).trans hw356_10), ((HB.out.cell (World.block_lt_of_cell? w _ hw356_11)).trans hw356_11), ((HB.out.cell (World.block_lt_of_cell? w _ hw357_0)).trans hw357_0), ((HB.out.cell (World.block_lt_of_cell? w _ hw357_1)).trans hw357_1), ((HB.out.cell (World.block_lt_of_cell? w _ hw357_2)).trans hw357_2), ((HB.out.cell (World.block_lt_of_cell? w _ hw357_3)).trans hw357_3), ((HB.out.cell (World.block_lt_of_cell? w _ hw357_4)).trans hw357_4), ((HB.out.cell (World.block_lt_of_cell? w _ hw357_5)).trans hw357_5), ((HB.out.cell (World.block_lt_of_cell? w _ hw357_6)).trans hw357_6), ((HB.out.cell (World.block_lt_of_cell? w _ hw357_7)).trans hw357_7), ((HB.out.cell (World.block_lt_of_cell? w _ hw357_8)).trans hw357_8), ((HB.out.cell (World.block_lt_of_cell? w _ hw357_9)).trans hw357_9), ((HB.out.cell (World.block_lt_of_cell? w _ hw357_10)).trans hw357_10), ((HB.out.cell (World.block_lt_of_cell? w _ hw357_11)).trans hw357_11)⟩ (fun hHeld => ?_)
       clear hK; clear K
       refine norm_ (a' := ?_) ?_ ?_
       rotate_left
       ·show Act.put _ (some 37) _ = _
        simp only [Act.put, List.setIfInBounds_toArray, List.set_cons_zero, List.set_cons_succ, i64_w, i32_w]
        rfl
       refine plan_ [(20, 3)] ?_
       refine planP_ (v := ?_) (a' := ?_) rfl rfl (any_of HT_.out (by kernel_rfl)) (fun _ _ _ h => h) (Or.inl ⟨by rfl, ?_⟩) ?_ ?_; rotate_left; (intro w'; go_simp; with_reducible rfl); rotate_left; (simp only [Act.put, List.setIfInBounds_toArray, List.set_cons_zero, List.set_cons_succ, i64_w, i32_w]; rfl)
       refine planEnd_ ?_
       refine done_ (done_of HT_.out (by kernel_rfl)) ?_
       try go_wp2
       go_roundg k1
       case measure => have := HK1.out; omega
       case rel => exact ⟨(y358), (wrap64 (x4_1 + 1)), ez, H', ⟨by have := HK1.out; omega⟩, ⟨mR HO360.out⟩, ⟨mB HB.out⟩⟩
      ·rw [if_neg c7] at H
       exact absurd H (by simp)
     ·rw [if_neg c6] at H
      have c6b0 : (((rd_T32 l0 x4_1).f7) == 3) = false := beq_eq_false_iff_ne.mpr c6
      have c6b1 : (((rd_T32 l0 x4_1).f7) != 3) = true := bne_iff_ne.mpr c6
      have H' := Aside0.mk H
      clear H
      have p354 : 0 ≤ (x4_1 : Int) := oda
      have q354 : x4_1 < (l0.length : Int) := oda
      obtain ⟨ad354, e354, hx354_0, hx354_1, hx354_2, hx354_3, hx354_4, hx354_5, hx354_6, hx354_7, hx354_8, hx354_9, hx354_10, hx354_11⟩ := at_T32 HR0.out x4_1 p354 q354
      cases e354
      replace hx354_0 := hs_ HB.out hx354_0
      replace hx354_1 := hs_ HB.out hx354_1
      replace hx354_2 := hs_ HB.out hx354_2
      replace hx354_3 := hs_ HB.out hx354_3
      replace hx354_4 := hs_ HB.out hx354_4
      replace hx354_5 := hs_ HB.out hx354_5
      replace hx354_6 := hs_ HB.out hx354_6
      replace hx354_7 := hs_ HB.out hx354_7
      replace hx354_8 := hs_ HB.out hx354_8
      replace hx354_9 := hs_ HB.out hx354_9
      replace hx354_10 := hs_ HB.out hx354_10
      replace hx354_11 := hs_ HB.out hx354_11
      replace p354 := eq_true p354
      replace q354 := eq_true q354
      go_wp2
      go_roundg k1
      case measure => have := HK1.out; omega
      case rel => exact ⟨(x3_1), (wrap64 (x4_1 + 1)), ez, H', ⟨by have := HK1.out; omega⟩, ⟨mR HO_3.out⟩, ⟨mB HB.out⟩⟩
    ·rw [if_neg c5] at H
     exact absurd H (by simp)
   ·rw [if_neg c4] at H
    have c4b0 : decide (x4_1 < (l0.length : Int)) = false := decide_eq_false c4
    clear c4
    obtain rfl := Option.some.inj H
    go_wp2
    go_ret
    exact ⟨_, by first | rfl | (simp [errW_none, errW_some] <;> rfl) | (simp [*, errW_none, errW_some] <;> rfl), mR HO_3.out, by repeat (first | (with_reducible first | exact HB.out | apply below_alloc | apply pw_below_drewN | apply below_drew1) | exact HB.out)⟩

end Go.Proofs.Ytkhfgflcanmefaa.PAll
end
section
namespace Go.Proofs.Ytkhfgflcanmefaa.PAll
open Go.RowKit Go.Proofs.YtkhfgflcanmefaaW.PrintWords Go.Proofs.YtkhfgflcanmefaaW.PrintLast Go.Proofs.YtkhfgflcanmefaaW.PrintMore
attribute [local go_sem] max2_int min2_int max_two min_two max_three min_three max_four min_four   -- for this text's walks alone
set_option linter.unusedVariables false
set_option linter.unusedSimpArgs false

theorem eqA63 (d : Nat) (w : World) (x0 y0 : Int) (x1 y1 : Int) (x2 y2 : Int) (x3 y3 : Int) :
    (Op.equalIn (d + 2) 63 (.agg #[.int .i64 x0, .int .i64 x1, .int .i64 x2, .int .i64 x3]) (.agg #[.int .i64 y0, .int .i64 y1, .int .i64 y2, .int .i64 y3])).run Try.prog w = .ok (x0 == y0 && (x1 == y1 && (x2 == y2 && (x3 == y3)))) w := by
  refine eqA_of Try.underlying63 (by kernel_rfl) ?_
  refine eqf_cons (by rfl) (by go_simp; rfl) (by go_simp; rfl) (by go_simp) ?_
  refine eqf_cons (by rfl) (by go_simp; rfl) (by go_simp; rfl) (by go_simp) ?_
  refine eqf_cons (by rfl) (by go_simp; rfl) (by go_simp; rfl) (by go_simp) ?_
  exact eqf_last (by rfl) (by go_simp; rfl) (by go_simp; rfl) (by go_simp)
end Go.Proofs.Ytkhfgflcanmefaa.PAll
end
section
namespace Go.Proofs.Ytkhfgflcanmefaa.PAll
open Go.RowKit Go.Proofs.YtkhfgflcanmefaaW.PrintWords Go.Proofs.YtkhfgflcanmefaaW.PrintLast Go.Proofs.YtkhfgflcanmefaaW.PrintMore
attribute [local go_sem] max2_int min2_int max_two min_two max_three min_three max_four min_four   -- for this text's walks alone
set_option linter.unusedVariables false
set_option linter.unusedSimpArgs false

attribute [local go_sem high] eqA63
def prebendref02_Boxes.l0 : Nat → List (S63) → List (S63) → Int → Option (Bool)
  | 0, _, _, _ => none
  | k + 1, x0, x1, x5 => if x5 < (x0.length : Int) then (if 0 ≤ x5 then (if x5 < (x1.length : Int) then (if (!(((rd_T63 x0 x5).f0) == ((rd_T63 x1 x5).f0)) || (!(((rd_T63 x0 x5).f1) == ((rd_T63 x1 x5).f1)) || (!(((rd_T63 x0 x5).f2) == ((rd_T63 x1 x5).f2)) || (!(((rd_T63 x0 x5).f3) == ((rd_T63 x1 x5).f3)))))) = true then (some false) else (prebendref02_Boxes.l0 k x0 x1 (wrap64 (x5 + 1)))) else (none)) else (none)) else (some true)
def prebendref02_Boxes.f (k : Nat) (l0 : List (S63)) (l1 : List (S63)) : Option (Bool) := if (l0.length : Int) = (l1.length : Int) then (prebendref02_Boxes.l0 k l0 l1 0) else (some false)
theorem prebendref02_Boxes.mono_l : ∀ k, (∀ y0 y1 y2, LeO (prebendref02_Boxes.l0 k y0 y1 y2) (prebendref02_Boxes.l0 (k + 1) y0 y1 y2))
  | 0 => fun _ _ _ r h => by simp [prebendref02_Boxes.l0] at h
  | k + 1 => by
    have ih0 := prebendref02_Boxes.mono_l k
    · intro y0 y1 y2
      unfold prebendref02_Boxes.l0
      repeat' first
      | (with_reducible exact ih0 _ _ _)
      | (with_reducible exact LeO.refl _)
      | (with_reducible exact LeO.none _)
      | (with_reducible refine LeO.ite ?_ ?_)
      | (with_reducible refine LeO.bind ?_ (fun _ => ?_))
      | exact ih0 _ _ _
      | exact LeO.none _
      | refine LeO.ite ?_ ?_
      | refine LeO.bind ?_ (fun _ => ?_)
theorem prebendref02_Boxes.mono : ∀ a0 a1 k, LeO (prebendref02_Boxes.f k a0 a1) (prebendref02_Boxes.f (k + 1) a0 a1) := by
  intro a0 a1 k
  have ih0 := prebendref02_Boxes.mono_l k
  unfold prebendref02_Boxes.f
  repeat' first
      | (with_reducible exact ih0 _ _ _)
      | (with_reducible exact LeO.refl _)
      | (with_reducible exact LeO.none _)
      | (with_reducible refine LeO.ite ?_ ?_)
      | (with_reducible refine LeO.bind ?_ (fun _ => ?_))
      | exact ih0 _ _ _
      | exact LeO.none _
      | refine LeO.ite ?_ ?_
      | refine LeO.bind ?_ (fun _ => ?_)
set_option maxHeartbeats 8000000 in
set_option maxRecDepth 100000 in
theorem prebendref02_Boxes.calls (k : Nat) (A0 : Option Addr) (c0 : Nat) (l0 : List (S63)) (A1 : Option Addr) (c1 : Nat) (l1 : List (S63)) (r : Bool) (w : World) (hr0 : Kd.C k63 w A0 l0.length l0) (hc0 : l0.length ≤ c0) (hr1 : Kd.C k63 w A1 l1.length l1) (hc1 : l1.length ≤ c1) (h : prebendref02_Boxes.f k l0 l1 = some r) :
    Calls Try.prog 24 #[.slice A0 l0.length c0, .slice A1 l1.length c1] w fun e w' => e = .returned (.bool r) ∧ Drawn0 w w' := by
  have hu63 := Try.underlying63
  have HR0 := Aside0.mk hr0
  have HC0 := Aside0.mk hc0
  clear hr0 hc0
  have HR1 := Aside0.mk hr1
  have HC1 := Aside0.mk hc1
  clear hr1 hc1
  have H : (if (l0.length : Int) = (l1.length : Int) then (prebendref02_Boxes.l0 k l0 l1 0) else (some false)) = some r := h
  clear h
  by_cases c3 : (l0.length : Int) = (l1.length : Int)
  · rw [if_pos c3] at H
    have c3b0 : ((l0.length : Int) == (l1.length : Int)) = true := beq_iff_eq.mpr c3
    have c3b1 : ((l0.length : Int) != (l1.length : Int)) = false := bne_eq_false_iff_eq.mpr c3
    have c3b2 : (l0.length == l1.length) = true := by first | simpa using c3 | (simp at c3 ⊢; omega)
    clear c3
    have H' := Aside0.mk H
    clear H
    go_enter Try.func24, Try.ntmps24
    go_wp2
    repeat (go_quiet (fail); try go_wp2)
    go_loopg [5] k (fun kq v5 w' => ∃ (x5_1 : Int), v5 = .int .i64 x5_1 ∧ Aside0 (prebendref02_Boxes.l0 kq l0 l1 x5_1 = some r) ∧ Aside0 (kq ≤ k) ∧ Drawn0 w w')
    case atStart => exact ⟨(0), (by first | rfl | (simp; done) | (simp [*]; done)), H', ⟨Nat.le_refl _⟩, by repeat (first | exact Drawn0.refl _ | apply Drawn0.step)⟩
    case round =>
      clear H'
      try clear c1
      try clear c2
      try clear p2
      try clear c3
      try clear c3b0
      try clear c3b1
      try clear c3b2
      obtain ⟨x5_1, rfl, HA, HK1, ⟨m1, rfl⟩⟩ := hrel
      cases gk with
      | zero => exact absurd HA.out (by simp [prebendref02_Boxes.l0])
      | succ k1 =>
        have H := HA.out
        clear HA
        simp only [prebendref02_Boxes.l0] at H
        by_cases c4 : x5_1 < (l0.length : Int)
        · rw [if_pos c4] at H
          have c4b0 : decide (x5_1 < (l0.length : Int)) = true := decide_eq_true c4
          clear c4
          by_cases c5 : 0 ≤ x5_1
          · rw [if_pos c5] at H
            have c5b0 : decide (0 ≤ x5_1) = true := decide_eq_true c5
            clear c5
            by_cases c6 : x5_1 < (l1.length : Int)
            · rw [if_pos c6] at H
              have c6b0 : decide (x5_1 < (l1.length : Int)) = true := decide_eq_true c6
              clear c6
              by_cases c7 : (!(((rd_T63 l0 x5_1).f0) == ((rd_T63 l1 x5_1).f0)) || (!(((rd_T63 l0 x5_1).f1) == ((rd_T63 l1 x5_1).f1)) || (!(((rd_T63 l0 x5_1).f2) == ((rd_T63 l1 x5_1).f2)) || (!(((rd_T63 l0 x5_1).f3) == ((rd_T63 l1 x5_1).f3)))))) = true
              · rw [if_pos c7] at H
                have c7b0 : (!(((rd_T63 l0 x5_1).f0) == ((rd_T63 l1 x5_1).f0)) || (!(((rd_T63 l0 x5_1).f1) == ((rd_T63 l1 x5_1).f1)) || (!(((rd_T63 l0 x5_1).f2) == ((rd_T63 l1 x5_1).f2)) || (!(((rd_T63 l0 x5_1).f3) == ((rd_T63 l1 x5_1).f3)))))) = true := c7
                clear c7
                obtain rfl := Option.some.inj H
                have p361 : 0 ≤ (x5_1 : Int) := of_decide_eq_true (by first | (with_reducible assumption) | assumption)
                have q361 : x5_1 < (l0.length : Int) := of_decide_eq_true (by first | (with_reducible assumption) | assumption)
                obtain ⟨ad361, e361, hx361_0, hx361_1, hx361_2, hx361_3⟩ := at_T63 HR0.out x5_1 p361 q361
                cases e361
                replace p361 := eq_true p361
                replace q361 := eq_true q361
                have p362 : 0 ≤ (x5_1 : Int) := of_decide_eq_true (by first | (with_reducible assumption) | assumption)
                have q362 : x5_1 < (l1.length : Int) := of_decide_eq_true (by first | (with_reducible assumption) | assumption)
                obtain ⟨ad362, e362, hx362_0, hx362_1, hx362_2, hx362_3⟩ := at_T63 HR1.out x5_1 p362 q362
                cases e362
                replace p362 := eq_true p362
                replace q362 := eq_true q362
                go_wp2
                repeat (go_quiet (fail); try go_wp2)
                go_ret
                exact ⟨by first | rfl | (simp; done) | (simp [*]; done), by repeat (first | exact Drawn0.refl _ | apply Drawn0.step)⟩
              · rw [if_neg c7] at H
                have c7b0 : (!(((rd_T63 l0 x5_1).f0) == ((rd_T63 l1 x5_1).f0)) || (!(((rd_T63 l0 x5_1).f1) == ((rd_T63 l1 x5_1).f1)) || (!(((rd_T63 l0 x5_1).f2) == ((rd_T63 l1 x5_1).f2)) || (!(((rd_T63 l0 x5_1).f3) == ((rd_T63 l1 x5_1).f3)))))) = false := by simpa using c7
                clear c7
                have H' := Aside0.mk H
                clear H
                have p361 : 0 ≤ (x5_1 : Int) := of_decide_eq_true (by first | (with_reducible assumption) | assumption)
                have q361 : x5_1 < (l0.length : Int) := of_decide_eq_true (by first | (with_reducible assumption) | assumption)
                obtain ⟨ad361, e361, hx361_0, hx361_1, hx361_2, hx361_3⟩ := at_T63 HR0.out x5_1 p361 q361
                cases e361
                replace p361 := eq_true p361
                replace q361 := eq_true q361
                have p362 : 0 ≤ (x5_1 : Int) := of_decide_eq_true (by first | (with_reducible assumption) | assumption)
                have q362 : x5_1 < (l1.length : Int) := of_decide_eq_true (by first | (with_reducible assumption) | assumption)
                obtain ⟨ad362, e362, hx362_0, hx362_1, hx362_2, hx362_3⟩ := at_T63 HR1.out x5_1 p362 q362
                cases e362
                replace p362 := eq_true p362
                replace q362 := eq_true q362
                go_wp2
                repeat (go_quiet (fail); try go_wp2)
                go_roundg k1
                case measure => have := HK1.out; omega
                case rel => exact ⟨(wrap64 (x5_1 + 1)), (by first | rfl | (simp; done) | (simp [*]; done)), H', ⟨by have := HK1.out; omega⟩, by repeat (first | exact Drawn0.refl _ | apply Drawn0.step)⟩
            · rw [if_neg c6] at H
              exact absurd H (by simp)
          · rw [if_neg c5] at H
            exact absurd H (by simp)
        · rw [if_neg c4] at H
          have c4b0 : decide (x5_1 < (l0.length : Int)) = false := decide_eq_false c4
          clear c4
          obtain rfl := Option.some.inj H
          go_wp2
          repeat (go_quiet (fail); try go_wp2)
          go_ret
          exact ⟨by first | rfl | (simp; done) | (simp [*]; done), by repeat (first | exact Drawn0.refl _ | apply Drawn0.step)⟩
  · rw [if_neg c3] at H
    have c3b0 : ((l0.length : Int) == (l1.length : Int)) = false := beq_eq_false_iff_ne.mpr c3
    have c3b1 : ((l0.length : Int) != (l1.length : Int)) = true := bne_iff_ne.mpr c3
    have c3b2 : (l0.length == l1.length) = false := by first | simpa using c3 | (simp at c3 ⊢; omega)
    obtain rfl := Option.some.inj H
    go_enter Try.func24, Try.ntmps24
    go_wp2
    repeat (go_quiet (fail); try go_wp2)
    go_ret
    exact ⟨by first | rfl | (simp; done) | (simp [*]; done), by repeat (first | exact Drawn0.refl _ | apply Drawn0.step)⟩

end Go.Proofs.Ytkhfgflcanmefaa.PAll
end
section
namespace Go.Proofs.Ytkhfgflcanmefaa.PAll
open Go.RowKit Go.Proofs.YtkhfgflcanmefaaW.PrintWords Go.Proofs.YtkhfgflcanmefaaW.PrintLast Go.Proofs.YtkhfgflcanmefaaW.PrintMore
attribute [local go_sem] max2_int min2_int max_two min_two max_three min_three max_four min_four   -- for this text's walks alone
set_option linter.unusedVariables false
set_option linter.unusedSimpArgs false

def prebendref02_in.f (a0 : Int) (a1 : Int) (a2 : Int) : Option (Bool) := if a0 ≥ a1 then (some (decide (a0 ≤ a2))) else (some false)
set_option maxHeartbeats 8000000 in
set_option maxRecDepth 100000 in
theorem prebendref02_in.calls (a0 : Int) (a1 : Int) (a2 : Int) (r : Bool) (w : World) (h : prebendref02_in.f a0 a1 a2 = some r) :
    Calls Try.prog 58 #[.int .i64 a0, .int .i64 a1, .int .i64 a2] w fun e w' => e = .returned (.bool r) ∧ Drawn0 w w' := by
  have H : (if a0 ≥ a1 then (some (decide (a0 ≤ a2))) else (some false)) = some r := h
  clear h
  by_cases c4 : a0 ≥ a1
  · rw [if_pos c4] at H
    have c4b0 : decide (a1 ≤ a0) = true := decide_eq_true c4
    clear c4
    obtain rfl := Option.some.inj H
    go_enter Try.func58, Try.ntmps58
    go_wp2
    go_ret
    exact ⟨by first | rfl | (simp; done) | (simp [*]; done), by repeat (first | exact Drawn0.refl _ | apply Drawn0.step)⟩
  · rw [if_neg c4] at H
    have c4b0 : decide (a1 ≤ a0) = false := decide_eq_false c4
    clear c4
    obtain rfl := Option.some.inj H
    go_enter Try.func58, Try.ntmps58
    go_wp2
    go_ret
    exact ⟨by first | rfl | (simp; done) | (simp [*]; done), by repeat (first | exact Drawn0.refl _ | apply Drawn0.step)⟩

end Go.Proofs.Ytkhfgflcanmefaa.PAll
end
section
namespace Go.Proofs.Ytkhfgflcanmefaa.PAll
open Go.RowKit Go.Proofs.YtkhfgflcanmefaaW.PrintWords Go.Proofs.YtkhfgflcanmefaaW.PrintLast Go.Proofs.YtkhfgflcanmefaaW.PrintMore
attribute [local go_sem] max2_int min2_int max_two min_two max_three min_three max_four min_four   -- for this text's walks alone
set_option linter.unusedVariables false
set_option linter.unusedSimpArgs false

mutual
def prebendref02_Rows.j0 : Nat → Int → Int → Int → List (S63) → Bool → Option ((List (S63)))
 | 0, _, _, _, _, _ => none
 | k + 1, x0, x1, x2, x7, x17 => if x17 = true then (some x7) else (prebendref02_Rows.l0 k x0 x1 x2 x7 0)
def prebendref02_Rows.l0 : Nat → Int → Int → Int → List (S63) → Int → Option ((List (S63)))
 | 0, _, _, _, _, _ => none
 | k + 1, x0, x1, x2, x7, x8 => if x8 < 32 then (if 0 ≤ (IntKind.u64.wrap (x8)) then (if (Go.bits .and .i64 (shr .i64 x2 (IntKind.u64.wrap (x8))) 1) = 0 then (prebendref02_Rows.l0 k x0 x1 x2 x7 (wrap64 (x8 + 1))) else (if x8 > 0 then (if 0 ≤ (IntKind.u64.wrap (wrap64 (x8 - 1))) then (if (Go.bits .and .i64 (shr .i64 x2 (IntKind.u64.wrap (wrap64 (x8 - 1)))) 1) = 1 then (if 0 ≤ (wrap64 ((x7.length : Int) - 1)) then (if (wrap64 ((x7.length : Int) - 1)) < (x7.length : Int) then (prebendref02_Rows.l0 k x0 x1 x2 (x7.set ((wrap64 ((x7.length : Int) - 1)) : Int).toNat (⟨(rd_T63 x7 (wrap64 ((x7.length : Int) - 1))).f0, (rd_T63 x7 (wrap64 ((x7.length : Int) - 1))).f1, (rd_T63 x7 (wrap64 ((x7.length : Int) - 1))).f2, wrap64 (((rd_T63 x7 (wrap64 ((x7.length : Int) - 1))).f3) + 1)⟩ : S63)) (wrap64 (x8 + 1))) else (none)) else (none)) else (if x7.length < 4398046511104 then (prebendref02_Rows.l0 k x0 x1 x2 (x7 ++ [(⟨x0, x8, x1, 1⟩ : S63)]) (wrap64 (x8 + 1))) else (none))) else (none)) else (if x7.length < 4398046511104 then (prebendref02_Rows.l0 k x0 x1 x2 (x7 ++ [(⟨x0, x8, x1, 1⟩ : S63)]) (wrap64 (x8 + 1))) else (none)))) else (none)) else (some x7)
end
def prebendref02_Rows.f (k : Nat) (a0 : Int) (a1 : Int) (a2 : Int) : Option ((List (S63))) := (some (([] : List (S63)) : List (S63))).bind fun y363 => ((prebendref02_in.f a0 0 1099511627776).bind fun t366 => (if t366 = true then ((prebendref02_in.f a1 1 1048576).bind fun t367 => (prebendref02_Rows.j0 k a0 a1 a2 y363 (!t367))) else (prebendref02_Rows.j0 k a0 a1 a2 y363 true)))
theorem prebendref02_Rows.mono_l : ∀ k, (∀ y0 y1 y2 y3 y4, LeO (prebendref02_Rows.j0 k y0 y1 y2 y3 y4) (prebendref02_Rows.j0 (k + 1) y0 y1 y2 y3 y4)) ∧ (∀ y0 y1 y2 y3 y4, LeO (prebendref02_Rows.l0 k y0 y1 y2 y3 y4) (prebendref02_Rows.l0 (k + 1) y0 y1 y2 y3 y4))
 | 0 => ⟨fun _ _ _ _ _ r h => by simp [prebendref02_Rows.j0] at h, fun _ _ _ _ _ r h => by simp [prebendref02_Rows.l0] at h⟩
 | k + 1 => by
  obtain ⟨ih0, ih1⟩ := prebendref02_Rows.mono_l k
  refine ⟨?_, ?_⟩
  ·intro y0 y1 y2 y3 y4
   unfold prebendref02_Rows.j0
   repeat' first
   | (with_reducible exact ih0 _ _ _ _ _)
   | (with_reducible exact ih1 _ _ _ _ _)
   | (with_reducible exact LeO.refl _)
   | (with_reducible exact LeO.none _)
   | (with_reducible refine LeO.ite ?_ ?_)
   | (with_reducible refine LeO.bind ?_ (fun _ => ?_))
   | exact ih0 _ _ _ _ _
   | exact ih1 _ _ _ _ _
   | exact LeO.none _
   | refine LeO.ite ?_ ?_
   | refine LeO.bind ?_ (fun _ => ?_)
  ·intro y0 y1 y2 y3 y4
   unfold prebendref02_Rows.l0
   repeat' first
   | (with_reducible exact ih0 _ _ _ _ _)
   | (with_reducible exact ih1 _ _ _ _ _)
   | (with_reducible exact LeO.refl _)
   | (with_reducible exact LeO.none _)
   | (with_reducible refine LeO.ite ?_ ?_)
   | (with_reducible refine LeO.bind ?_ (fun _ => ?_))
   | exact ih0 _ _ _ _ _
   | exact ih1 _ _ _ _ _
   | exact LeO.none _
   | refine LeO.ite ?_ ?_
   | refine LeO.bind ?_ (fun _ => ?_)
theorem prebendref02_Rows.mono : ∀ a0 a1 a2 k, LeO (prebendref02_Rows.f k a0 a1 a2) (prebendref02_Rows.f (k + 1) a0 a1 a2) := by
 intro a0 a1 a2 k
 obtain ⟨ih0, ih1⟩ := prebendref02_Rows.mono_l k
 unfold prebendref02_Rows.f
 repeat' first
   | (with_reducible exact ih0 _ _ _ _ _)
   | (with_reducible exact ih1 _ _ _ _ _)
   | (with_reducible exact LeO.refl _)
   | (with_reducible exact LeO.none _)
   | (with_reducible refine LeO.ite ?_ ?_)
   | (with_reducible refine LeO.bind ?_ (fun _ => ?_))
   | exact ih0 _ _ _ _ _
   | exact ih1 _ _ _ _ _
   | exact LeO.none _
   | refine LeO.ite ?_ ?_
   | refine LeO.bind ?_ (fun _ => ?_)
set_option maxHeartbeats 8000000 in
set_option maxRecDepth 100000 in
theorem prebendref02_Rows.calls (k : Nat) (a0 : Int) (a1 : Int) (a2 : Int) (r : List (S63)) (w : World) (h : prebendref02_Rows.f k a0 a1 a2 = some r) :
  Calls Try.prog 45 #[.int .i64 a0, .int .i64 a1, .int .i64 a2] w fun e w' => ∃ v0_ : Value, e = .returned (v0_) ∧ Kd.R k63 63 w' w.heap.size (fun _ => True) v0_ r ∧ Below w.heap.size w w' := by
 have hu63 := Try.underlying63
 have HB := Aside0.mk (Below.refl w.heap.size w)
 have H : ((some (([] : List (S63)) : List (S63))).bind fun y363 => ((prebendref02_in.f a0 0 1099511627776).bind fun t366 => (if t366 = true then ((prebendref02_in.f a1 1 1048576).bind fun t367 => (prebendref02_Rows.j0 k a0 a1 a2 y363 (!t367))) else (prebendref02_Rows.j0 k a0 a1 a2 y363 true)))) = some r := h
 clear h
 obtain ⟨y363, hy363⟩ : ∃ y_ : List (S63), y_ = (([] : List (S63))) := ⟨_, rfl⟩
 replace H : ((prebendref02_in.f a0 0 1099511627776).bind fun t366 => (if t366 = true then ((prebendref02_in.f a1 1 1048576).bind fun t367 => (prebendref02_Rows.j0 k a0 a1 a2 y363 (!t367))) else (prebendref02_Rows.j0 k a0 a1 a2 y363 true))) = some r := mH hy363 H
 have Ny363 := Aside0.mk hy363
 clear hy363
 have HC4 := Aside0.mk H
 clear H
 go_enter Try.func45, Try.ntmps45
 go_upto_region 2 with (first | ((with_reducible refine gate_dst (N := 9) rfl ?_); refine Kd.R_lit k63 _ 63 ?hg (N := 9) ?hd (xs := ([] : List (S63))) (inner := []) (ok := fun _ => True) (okp := fun _ => True) ?hr ?hp (fun _ hk => hk) trivial (Below.refl _ _) (Nat.le_refl _) (by simp) ?_; (case hd => rfl); (case hg => rfl); (case hr => first | (go_simp; done) | (go_simp; rfl)); (case hp => exact (Reps.none _ _)); intro v364 w5 ho6 hb hg_ hnew_; clear hg_ hnew_; (first | rw [← Ny363.out] at ho6 | (simp only [Int.reduceToNat] at ho6; rw [← Ny363.out] at ho6)); have n0_ := Aside0.mk (Kd.R_lower ho6 (below_size (mB HB.out))); have n1_ := Aside0.mk (below_step (mB HB.out) hb); clear HB; have HO365 := n0_; have HB := n1_; clear n0_ n1_; clear hb ho6))
 (try simp only [Act.put, List.setIfInBounds_toArray, List.set_cons_zero, List.set_cons_succ])
 go_cut [17] (fun v17 wc => ∃ (kq : Nat) (x17_3 : Bool), v17 = .bool x17_3 ∧ Aside0 (prebendref02_Rows.j0 kq a0 a1 a2 y363 x17_3 = some r) ∧ Aside0 (kq ≤ k) ∧ Aside0 (Kd.R k63 63 wc w.heap.size (fun _ => True) v364 y363) ∧ Aside0 (Below w.heap.size w wc))
 case first =>
  have H := HC4.out
  clear HC4
  replace H := Option.bind_eq_some_iff.mp H
  obtain ⟨t366, A70, H⟩ := H
  replace H : (if t366 = true then ((prebendref02_in.f a1 1 1048576).bind fun t367 => (prebendref02_Rows.j0 k a0 a1 a2 y363 (!t367))) else (prebendref02_Rows.j0 k a0 a1 a2 y363 true)) = some r := H
  have A7 := Aside0.mk A70
  clear A70
  by_cases c8 : t366 = true
  ·subst c8
   have H1 : ((prebendref02_in.f a1 1 1048576).bind fun t367 => (prebendref02_Rows.j0 k a0 a1 a2 y363 (!t367))) = some r := by rw [if_pos rfl] at H; exact H
   clear H
   have H := H1
   clear H1
   replace H := Option.bind_eq_some_iff.mp H
   obtain ⟨t367, A90, H⟩ := H
   replace H : (prebendref02_Rows.j0 k a0 a1 a2 y363 (!t367)) = some r := H
   have A9 := Aside0.mk A90
   clear A90
   have H' := Aside0.mk H
   clear H
   go_wp2_with (first | ((with_reducible refine gate_callee (f := 58) rfl ?_); refine goesL_ (some 11) rfl rfl Try.func58 (by kernel_rfl) rfl #[.int .i64 a0, .int .i64 0, .int .i64 1099511627776] rfl mt ?_; (with_reducible refine (prebendref02_in.calls a0 0 1099511627776 true _ A7.out).mono ?_); rintro e w' ⟨rfl, ⟨nd, rfl⟩⟩; refine ⟨_, rfl, ?_⟩) | (go_at_call 58; (with_reducible refine (prebendref02_in.calls a1 1 1048576 t367 _ A9.out).mono ?_); rintro e w' ⟨rfl, ⟨nd, rfl⟩⟩))
   go_meet
   case rel => exact ⟨_, (!t367), ez, H', ⟨by first | omega | exact Nat.le_refl _⟩, ⟨mR HO365.out⟩, ⟨mB HB.out⟩⟩
  ·replace c8 := Bool.eq_false_iff.mpr c8
   subst c8
   have H1 : (prebendref02_Rows.j0 k a0 a1 a2 y363 true) = some r := by rw [if_neg (show ¬ (false = true) by decide)] at H; exact H
   clear H
   have H := H1
   clear H1
   have H' := Aside0.mk H
   clear H
   go_wp2_with (first | ((with_reducible refine gate_callee (f := 58) rfl ?_); refine goesL_ (some 11) rfl rfl Try.func58 (by kernel_rfl) rfl #[.int .i64 a0, .int .i64 0, .int .i64 1099511627776] rfl mt ?_; (with_reducible refine (prebendref02_in.calls a0 0 1099511627776 false _ A7.out).mono ?_); rintro e w' ⟨rfl, ⟨nd, rfl⟩⟩; refine ⟨_, rfl, ?_⟩))
   go_meet
   case rel => exact ⟨_, (true), ez, H', ⟨by first | omega | exact Nat.le_refl _⟩, ⟨mR HO365.out⟩, ⟨mB HB.out⟩⟩
 case rest =>
  clear HC4
  (try clear p2); (try clear c4); (try clear c5); (try clear c8)
  obtain ⟨kq, x17_3, rfl, HA, HJ3, HO_7, HB⟩ := hcut
  cases kq with
  | zero => exact absurd HA.out (by simp [prebendref02_Rows.j0])
  | succ kj3 =>
   have H := HA.out
   clear HA
   simp only [prebendref02_Rows.j0] at H
   by_cases c10 : x17_3 = true
   ·subst c10
    have H1 : (some y363) = some r := by rw [if_pos rfl] at H; exact H
    clear H
    have H := H1
    clear H1
    obtain rfl := Option.some.inj H
    go_wp2
    go_ret
    exact ⟨_, by first | rfl | (simp [errW_none, errW_some] <;> rfl) | (simp [*, errW_none, errW_some] <;> rfl), mR HO_7.out, by repeat (first | (with_reducible first | exact HB.out | apply below_alloc | apply pw_below_drewN | apply below_drew1) | exact HB.out)⟩
   ·replace c10 := Bool.eq_false_iff.mpr c10
    subst c10
    have H1 : (prebendref02_Rows.l0 kj3 a0 a1 a2 y363 0) = some r := by rw [if_neg (show ¬ (false = true) by decide)] at H; exact H
    clear H
    have H := H1
    clear H1
    have H' := Aside0.mk H
    clear H
    go_wp2
    go_loopg [7, 8] kj3 (fun kq v7 v8 w' => ∃ (x7_2 : List (S63)) (x8_2 : Int), v8 = .int .i64 x8_2 ∧ Aside0 (prebendref02_Rows.l0 kq a0 a1 a2 x7_2 x8_2 = some r) ∧ Aside0 (kq ≤ kj3) ∧ Aside0 (Kd.R k63 63 w' w.heap.size (fun _ => True) v7 x7_2) ∧ Aside0 (Below w.heap.size w w'))
    case atStart => exact ⟨(y363), (0), ez, H', ⟨Nat.le_refl _⟩, ⟨mR HO_7.out⟩, ⟨mB HB.out⟩⟩
    case round =>
     clear H'
     (try clear c1); (try clear p2); (try clear c4); (try clear c5); (try clear c8); (try clear c10); (try clear p2)
     obtain ⟨x7_2, x8_2, rfl, HA, HK2, HO_7, HB⟩ := hrel
     cases gk with
     | zero => exact absurd HA.out (by simp [prebendref02_Rows.l0])
     | succ k2 =>
      have H := HA.out
      clear HA
      simp only [prebendref02_Rows.l0] at H
      by_cases c11 : x8_2 < 32
      ·rw [if_pos c11] at H
       have c11b0 : decide (x8_2 < 32) = true := decide_eq_true c11
       clear c11
       obtain ⟨ji12, hji12⟩ : ∃ j_ : Int, (IntKind.u64.wrap (x8_2)) = j_ := ⟨_, rfl⟩
       replace H : (if 0 ≤ (ji12) then (if (Go.bits .and .i64 (shr .i64 a2 (ji12)) 1) = 0 then (prebendref02_Rows.l0 k2 a0 a1 a2 x7_2 (wrap64 (x8_2 + 1))) else (if x8_2 > 0 then (if 0 ≤ (IntKind.u64.wrap (wrap64 (x8_2 - 1))) then (if (Go.bits .and .i64 (shr .i64 a2 (IntKind.u64.wrap (wrap64 (x8_2 - 1)))) 1) = 1 then (if 0 ≤ (wrap64 ((x7_2.length : Int) - 1)) then (if (wrap64 ((x7_2.length : Int) - 1)) < (x7_2.length : Int) then (prebendref02_Rows.l0 k2 a0 a1 a2 (x7_2.set ((wrap64 ((x7_2.length : Int) - 1)) : Int).toNat (⟨(rd_T63 x7_2 (wrap64 ((x7_2.length : Int) - 1))).f0, (rd_T63 x7_2 (wrap64 ((x7_2.length : Int) - 1))).f1, (rd_T63 x7_2 (wrap64 ((x7_2.length : Int) - 1))).f2, wrap64 (((rd_T63 x7_2 (wrap64 ((x7_2.length : Int) - 1))).f3) + 1)⟩ : S63)) (wrap64 (x8_2 + 1))) else (none)) else (none)) else (if x7_2.length < 4398046511104 then (prebendref02_Rows.l0 k2 a0 a1 a2 (x7_2 ++ [(⟨a0, x8_2, a1, 1⟩ : S63)]) (wrap64 (x8_2 + 1))) else (none))) else (none)) else (if x7_2.length < 4398046511104 then (prebendref02_Rows.l0 k2 a0 a1 a2 (x7_2 ++ [(⟨a0, x8_2, a1, 1⟩ : S63)]) (wrap64 (x8_2 + 1))) else (none)))) else (none)) = some r := by first | (rw [hji12] at H; exact H) | (simp only [hji12] at H ⊢; exact H)
       by_cases c13 : 0 ≤ (ji12)
       ·rw [if_pos c13] at H
        have c13b0 := eq_true c13
        have c13b1 : decide (0 ≤ (ji12)) = true := decide_eq_true c13
        clear c13
        obtain ⟨ji14, hji14⟩ : ∃ j_ : Int, (shr .i64 a2 (ji12)) = j_ := ⟨_, rfl⟩
        replace H : (if (Go.bits .and .i64 (ji14) 1) = 0 then (prebendref02_Rows.l0 k2 a0 a1 a2 x7_2 (wrap64 (x8_2 + 1))) else (if x8_2 > 0 then (if 0 ≤ (IntKind.u64.wrap (wrap64 (x8_2 - 1))) then (if (Go.bits .and .i64 (shr .i64 a2 (IntKind.u64.wrap (wrap64 (x8_2 - 1)))) 1) = 1 then (if 0 ≤ (wrap64 ((x7_2.length : Int) - 1)) then (if (wrap64 ((x7_2.length : Int) - 1)) < (x7_2.length : Int) then (prebendref02_Rows.l0 k2 a0 a1 a2 (x7_2.set ((wrap64 ((x7_2.length : Int) - 1)) : Int).toNat (⟨(rd_T63 x7_2 (wrap64 ((x7_2.length : Int) - 1))).f0, (rd_T63 x7_2 (wrap64 ((x7_2.length : Int) - 1))).f1, (rd_T63 x7_2 (wrap64 ((x7_2.length : Int) - 1))).f2, wrap64 (((rd_T63 x7_2 (wrap64 ((x7_2.length : Int) - 1))).f3) + 1)⟩ : S63)) (wrap64 (x8_2 + 1))) else (none)) else (none)) else (if x7_2.length < 4398046511104 then (prebendref02_Rows.l0 k2 a0 a1 a2 (x7_2 ++ [(⟨a0, x8_2, a1, 1⟩ : S63)]) (wrap64 (x8_2 + 1))) else (none))) else (none)) else (if x7_2.length < 4398046511104 then (prebendref02_Rows.l0 k2 a0 a1 a2 (x7_2 ++ [(⟨a0, x8_2, a1, 1⟩ : S63)]) (wrap64 (x8_2 + 1))) else (none)))) = some r := by first | (rw [hji14] at H; exact H) | (simp only [hji14] at H ⊢; exact H)
        have hji14_ : (a2 / 2 ^ min (ji12).toNat 64) = ji14 := hji14
        have hji14z : (ji12) ≤ 64 → (a2 / 2 ^ (ji12).toNat) = ji14 := shr_small hji14
        by_cases c15 : (Go.bits .and .i64 (ji14) 1) = 0
        ·rw [if_pos c15] at H
         have c15b0 : ((Go.bits .and .i64 (ji14) 1) == 0) = true := beq_iff_eq.mpr c15
         have c15b1 : ((Go.bits .and .i64 (ji14) 1) != 0) = false := bne_eq_false_iff_eq.mpr c15
         clear c15
         have H' := Aside0.mk H
         clear H
         go_wp2
         go_roundg k2
         case measure => have := HJ3.out; have := HK2.out; omega
         case rel => exact ⟨(x7_2), (wrap64 (x8_2 + 1)), ez, H', ⟨by have := HJ3.out; have := HK2.out; omega⟩, ⟨mR HO_7.out⟩, ⟨mB HB.out⟩⟩
        ·rw [if_neg c15] at H
         have c15b0 : ((Go.bits .and .i64 (ji14) 1) == 0) = false := beq_eq_false_iff_ne.mpr c15
         have c15b1 : ((Go.bits .and .i64 (ji14) 1) != 0) = true := bne_iff_ne.mpr c15
         by_cases c16 : x8_2 > 0
         ·rw [if_pos c16] at H
          have c16b0 : decide (0 < x8_2) = true := decide_eq_true c16
          clear c16
          obtain ⟨ji17, hji17⟩ : ∃ j_ : Int, (IntKind.u64.wrap (wrap64 (x8_2 - 1))) = j_ := ⟨_, rfl⟩
          replace H : (if 0 ≤ (ji17) then (if (Go.bits .and .i64 (shr .i64 a2 (ji17)) 1) = 1 then (if 0 ≤ (wrap64 ((x7_2.length : Int) - 1)) then (if (wrap64 ((x7_2.length : Int) - 1)) < (x7_2.length : Int) then (prebendref02_Rows.l0 k2 a0 a1 a2 (x7_2.set ((wrap64 ((x7_2.length : Int) - 1)) : Int).toNat (⟨(rd_T63 x7_2 (wrap64 ((x7_2.length : Int) - 1))).f0, (rd_T63 x7_2 (wrap64 ((x7_2.length : Int) - 1))).f1, (rd_T63 x7_2 (wrap64 ((x7_2.length : Int) - 1))).f2, wrap64 (((rd_T63 x7_2 (wrap64 ((x7_2.length : Int) - 1))).f3) + 1)⟩ : S63)) (wrap64 (x8_2 + 1))) else (none)) else (none)) else (if x7_2.length < 4398046511104 then (prebendref02_Rows.l0 k2 a0 a1 a2 (x7_2 ++ [(⟨a0, x8_2, a1, 1⟩ : S63)]) (wrap64 (x8_2 + 1))) else (none))) else (none)) = some r := by first | (rw [hji17] at H; exact H) | (simp only [hji17] at H ⊢; exact H)
          by_cases c18 : 0 ≤ (ji17)
          ·rw [if_pos c18] at H
           have c18b0 := eq_true c18
           have c18b1 : decide (0 ≤ (ji17)) = true := decide_eq_true c18
           clear c18
           obtain ⟨ji19, hji19⟩ : ∃ j_ : Int, (shr .i64 a2 (ji17)) = j_ := ⟨_, rfl⟩
           replace H : (if (Go.bits .and .i64 (ji19) 1) = 1 then (if 0 ≤ (wrap64 ((x7_2.length : Int) - 1)) then (if (wrap64 ((x7_2.length : Int) - 1)) < (x7_2.length : Int) then (prebendref02_Rows.l0 k2 a0 a1 a2 (x7_2.set ((wrap64 ((x7_2.length : Int) - 1)) : Int).toNat (⟨(rd_T63 x7_2 (wrap64 ((x7_2.length : Int) - 1))).f0, (rd_T63 x7_2 (wrap64 ((x7_2.length : Int) - 1))).f1, (rd_T63 x7_2 (wrap64 ((x7_2.length : Int) - 1))).f2, wrap64 (((rd_T63 x7_2 (wrap64 ((x7_2.length : Int) - 1))).f3) + 1)⟩ : S63)) (wrap64 (x8_2 + 1))) else (none)) else (none)) else (if x7_2.length < 4398046511104 then (prebendref02_Rows.l0 k2 a0 a1 a2 (x7_2 ++ [(⟨a0, x8_2, a1, 1⟩ : S63)]) (wrap64 (x8_2 + 1))) else (none))) = some r := by first | (rw [hji19] at H; exact H) | (simp only [hji19] at H ⊢; exact H)
           have hji19_ : (a2 / 2 ^ min (ji17).toNat 64) = ji19 := hji19
           have hji19z : (ji17) ≤ 64 → (a2 / 2 ^ (ji17).toNat) = ji19 := shr_small hji19
           by_cases c20 : (Go.bits .and .i64 (ji19) 1) = 1
           ·rw [if_pos c20] at H
            have c20b0 : ((Go.bits .and .i64 (ji19) 1) == 1) = true := beq_iff_eq.mpr c20
            have c20b1 : ((Go.bits .and .i64 (ji19) 1) != 1) = false := bne_eq_false_iff_eq.mpr c20
            clear c20
            obtain ⟨ji21, hji21⟩ : ∃ j_ : Int, (wrap64 ((x7_2.length : Int) - 1)) = j_ := ⟨_, rfl⟩
            replace H : (if 0 ≤ (ji21) then (if (ji21) < (x7_2.length : Int) then (prebendref02_Rows.l0 k2 a0 a1 a2 (x7_2.set ((ji21) : Int).toNat (⟨(rd_T63 x7_2 (ji21)).f0, (rd_T63 x7_2 (ji21)).f1, (rd_T63 x7_2 (ji21)).f2, wrap64 (((rd_T63 x7_2 (ji21)).f3) + 1)⟩ : S63)) (wrap64 (x8_2 + 1))) else (none)) else (none)) = some r := by first | (rw [hji21] at H; exact H) | (simp only [hji21] at H ⊢; exact H)
            have hji21w : (IntKind.i64.wrap ((x7_2.length : Int) - 1)) = ji21 := (i64_w _).trans hji21
            by_cases c22 : 0 ≤ (ji21)
            ·rw [if_pos c22] at H
             have c22b0 : decide (0 ≤ (ji21)) = true := decide_eq_true c22
             clear c22
             by_cases c23 : (ji21) < (x7_2.length : Int)
             ·rw [if_pos c23] at H
              have c23b0 : decide ((ji21) < (x7_2.length : Int)) = true := decide_eq_true c23
              clear c23
              obtain ⟨y369, hy369⟩ : ∃ y_ : List (S63), y_ = (x7_2.set ((ji21) : Int).toNat (⟨(rd_T63 x7_2 (ji21)).f0, (rd_T63 x7_2 (ji21)).f1, (rd_T63 x7_2 (ji21)).f2, wrap64 (((rd_T63 x7_2 (ji21)).f3) + 1)⟩ : S63)) := ⟨_, rfl⟩
              replace H : (prebendref02_Rows.l0 k2 a0 a1 a2 y369 (wrap64 (x8_2 + 1))) = some r := mH hy369 H
              have Ny369 := Aside0.mk hy369
              clear hy369
              have H' := Aside0.mk H
              clear H
              obtain ⟨Ao25, co25, eo25⟩ := Kd.R_slice HO_7.out
              subst eo25
              have p368 : 0 ≤ ((ji21) : Int) := oda
              have q368 : (ji21) < (x7_2.length : Int) := oda
              obtain ⟨ad368, e368, hx368_0, hx368_1, hx368_2, hx368_3⟩ := at_T63 (Kd.R_reads' HO_7.out).2.2 (ji21) p368 q368
              cases e368
              replace p368 := eq_true p368
              replace q368 := eq_true q368
              have p24 : 0 ≤ ((ji21) : Int) := oda
              have q24 : ((ji21) : Int) < ((x7_2.length : Int) : Int) := oda
              obtain ⟨go24, co24, eo24, gb24, gl24, cl24, HG24⟩ := Kd.R_form HO_7.out (by omega)
              (first | cases eo24 | (injection eo24 with ea_ en_ ec_; (first | subst ea_ | (injection ea_ with ea_; subst ea_)); subst ec_; clear en_))
              have GB24 := Aside0.mk gb24
              have GG24 := Aside0.mk HG24
              clear gb24; clear gl24; clear HG24
              (first | simp only [add_plain] at hx368_0 | skip)
              (first | simp only [add_plain] at hx368_1 | skip)
              (first | simp only [add_plain] at hx368_2 | skip)
              (first | simp only [add_plain] at hx368_3 | skip)
              obtain ⟨ce24, hcl24, hM24, hcc24, hfr24⟩ := Kd.R_elem HO_7.out z63 ((ji21) : Int) p24 q24
              obtain rfl := k63_openM hM24
              have hx24_0 : wr.cell? ⟨go24, ((ji21) : Int).toNat * 4, none⟩ = some (.int .i64 ((rd_T63 x7_2 (ji21)).f0)) := hcc24 0 _ rfl
              have hx24_1 : wr.cell? ⟨go24, ((ji21) : Int).toNat * 4 + 1, none⟩ = some (.int .i64 ((rd_T63 x7_2 (ji21)).f1)) := hcc24 1 _ rfl
              have hx24_2 : wr.cell? ⟨go24, ((ji21) : Int).toNat * 4 + 2, none⟩ = some (.int .i64 ((rd_T63 x7_2 (ji21)).f2)) := hcc24 2 _ rfl
              have hx24_3 : wr.cell? ⟨go24, ((ji21) : Int).toNat * 4 + 3, none⟩ = some (.int .i64 ((rd_T63 x7_2 (ji21)).f3)) := hcc24 3 _ rfl
              have hf24_0 : wr.frozen? ⟨go24, ((ji21) : Int).toNat * 4, none⟩ = false := hfr24 0
              have hf24_1 : wr.frozen? ⟨go24, ((ji21) : Int).toNat * 4 + 1, none⟩ = false := hfr24 1
              have hf24_2 : wr.frozen? ⟨go24, ((ji21) : Int).toNat * 4 + 2, none⟩ = false := hfr24 2
              have hf24_3 : wr.frozen? ⟨go24, ((ji21) : Int).toNat * 4 + 3, none⟩ = false := hfr24 3
              clear hcl24; clear hcc24; clear hfr24; clear hM24
              replace p24 := eq_true p24
              replace q24 := eq_true q24
              have HX26 := Aside0.mk (show Kd.R k63 63 wr w.heap.size (fun _ => True) (.slice (some ⟨go24, 0, none⟩) x7_2.length co25) x7_2 from (mR HO_7.out))
              obtain ⟨ce26, hcl26, hM26, hcc26, hfr26⟩ := Kd.R_elem HX26.out z63 ((ji21) : Int) (oda) (by have h_ : ((ji21) : Int) < ((x7_2.length : Int) : Int) := oda; first | exact h_ | (have e_ := (Kd.R_reads' HO_7.out).1; omega) | simpa using h_)
              obtain rfl := k63_openM hM26
              have HP26 := Kd.R_seg HX26.out ((ji21) : Int) (oda) (by have h_ : ((ji21) : Int) < ((x7_2.length : Int) : Int) := oda; first | exact h_ | (have e_ := (Kd.R_reads' HO_7.out).1; omega) | simpa using h_) (seg := [.int .i64 (wrap64 (((rd_T63 x7_2 (ji21)).f3) + 1))]) (j := 3) hcl26 hcc26 (show 4 ≤ 4 from by decide) (x' := (⟨(rd_T63 x7_2 (ji21)).f0, (rd_T63 x7_2 (ji21)).f1, (rd_T63 x7_2 (ji21)).f2, wrap64 (((rd_T63 x7_2 (ji21)).f3) + 1)⟩ : S63)) (k63_mkM _ _ _ (⟨(rd_T63 x7_2 (ji21)).f0, (rd_T63 x7_2 (ji21)).f1, (rd_T63 x7_2 (ji21)).f2, wrap64 (((rd_T63 x7_2 (ji21)).f3) + 1)⟩ : S63) ) (fun _ hk => hk)
              have hx26_3 := hcc26 3 _ rfl
              (try simp only [show (k63).sz = 4 from rfl, Nat.mul_one, Nat.add_zero] at hx26_3)
              have hf26_3 := hfr26 3
              (try simp only [show (k63).sz = 4 from rfl, Nat.mul_one, Nat.add_zero] at hf26_3)
              clear hcl26; clear hcc26; clear hfr26; clear hM26
              go_wp2_with (first | ((with_reducible refine gate_store (t := 3) (p := 49) rfl ?_); refine store_event (t := 3) (p := 49) (v := ?vo_w27) (w1 := (wr.setCell ⟨go24, ((ji21) : Int).toNat * 4 + 3, none⟩ (.int .i64 (wrap64 (((rd_T63 x7_2 (ji21)).f3) + 1))))) ?hg ?ho ?hn ?hr ?_; (case ho => rfl); (case hg => rfl); (case hn => rfl); (case hr => first | (go_simp; done) | (go_simp; rfl)); intro w27 hw; have hg : wr.grownBy w27 (some go24) := (by rw [hw]; exact HP26.2); have hp_ : Kd.R k63 63 w27 w.heap.size (fun _ => True) (.slice (some ⟨go24, 0, none⟩) x7_2.length co25) y369 := (by rw [hw, Ny369.out]; exact HP26.1); clear HP26; have n0_ := Aside0.mk (hp_); have n1_ := Aside0.mk ((by rw [hw]; exact below_set (HB.out) GB24.out : Below w.heap.size w w27)); clear HO_7; clear HB; have HO_7 := n0_; have HB := n1_; clear n0_ n1_; clear hg hw hp_))
              go_roundg k2
              case measure => have := HJ3.out; have := HK2.out; omega
              case rel => exact ⟨(y369), (wrap64 (x8_2 + 1)), ez, H', ⟨by have := HJ3.out; have := HK2.out; omega⟩, ⟨mR HO_7.out⟩, ⟨mB HB.out⟩⟩
             ·rw [if_neg c23] at H
              exact absurd H (by simp)
            ·rw [if_neg c22] at H
             exact absurd H (by simp)
           ·rw [if_neg c20] at H
            have c20b0 : ((Go.bits .and .i64 (ji19) 1) == 1) = false := beq_eq_false_iff_ne.mpr c20
            have c20b1 : ((Go.bits .and .i64 (ji19) 1) != 1) = true := bne_iff_ne.mpr c20
            by_cases c28 : x7_2.length < 4398046511104
            ·rw [if_pos c28] at H
             have LMc28 := Aside0.mk c28
             clear c28
             obtain ⟨y370, hy370⟩ : ∃ y_ : List (S63), y_ = (x7_2 ++ [(⟨a0, x8_2, a1, 1⟩ : S63)]) := ⟨_, rfl⟩
             replace H : (prebendref02_Rows.l0 k2 a0 a1 a2 y370 (wrap64 (x8_2 + 1))) = some r := mH hy370 H
             have Ny370 := Aside0.mk hy370
             clear hy370
             have H' := Aside0.mk H
             clear H
             go_wp2_with (first | ((with_reducible refine gate_builtin (b := .append) (xs := #[.tmp 50, .tmp 55]) rfl ?_); at_builtin; refine Kd.R_append k63 (w0 := w) w.heap.size rfl (.tmp 50) (.tmp 55) 43 63 (.agg #[(.int .i64 0), (.int .i64 0), (.int .i64 0), (.int .i64 0)]) 32 rfl Try.underlying43 info63 rfl (by decide) (by omega) u7 x7_2 (⟨a0, x8_2, a1, 1⟩ : S63) [.int .i64 a0, .int .i64 x8_2, .int .i64 a1, .int .i64 1] (fun _ => True) (fun _ => False) rfl rfl ?aP (fun _ hk => hk.elim) ?aF ?aO ?aB ?aS ?aL ?_; (case aP => exact k63_mkM _ _ _ (⟨a0, x8_2, a1, 1⟩ : S63)); (case aB => exact (mB HB.out)); (case aF => exact (fun _ _ => trivial)); (case aO => exact (mR HO_7.out)); (case aS => exact (below_size (mB HB.out))); (case aL => have := LMc28.out; omega); intro v371 w29 ho hb hg hat; rw [← Ny370.out] at ho; have n0_ := Aside0.mk (hb); have n1_ := Aside0.mk (ho); clear HB; clear HO_7; have HB := n0_; have HO372 := n1_; clear n0_ n1_; clear ho hb hg hat))
             go_roundg k2
             case measure => have := HJ3.out; have := HK2.out; omega
             case rel => exact ⟨(y370), (wrap64 (x8_2 + 1)), ez, H', ⟨by have := HJ3.out; have := HK2.out; omega⟩, ⟨mR HO372.out⟩, ⟨mB HB.out⟩⟩
            ·rw [if_neg c28] at H
             exact absurd H (by simp)
          ·rw [if_neg c18] at H
           exact absurd H (by simp)
         ·rw [if_neg c16] at H
          have c16b0 : decide (0 < x8_2) = false := decide_eq_false c16
          clear c16
          by_cases c30 : x7_2.length < 4398046511104
          ·rw [if_pos c30] at H
           have LMc30 := Aside0.mk c30
           clear c30
           obtain ⟨y373, hy373⟩ : ∃ y_ : List (S63), y_ = (x7_2 ++ [(⟨a0, x8_2, a1, 1⟩ : S63)]) := ⟨_, rfl⟩
           replace H : (prebendref02_Rows.l0 k2 a0 a1 a2 y373 (wrap64 (x8_2 + 1))) = some r := mH hy373 H
           have Ny373 := Aside0.mk hy373
           clear hy373
           have H' := Aside0.mk H
           clear H
           go_wp2_with (first | ((with_reducible refine gate_builtin (b := .append) (xs := #[.tmp 50, .tmp 55]) rfl ?_); at_builtin; refine Kd.R_append k63 (w0 := w) w.heap.size rfl (.tmp 50) (.tmp 55) 43 63 (.agg #[(.int .i64 0), (.int .i64 0), (.int .i64 0), (.int .i64 0)]) 32 rfl Try.underlying43 info63 rfl (by decide) (by omega) u7 x7_2 (⟨a0, x8_2, a1, 1⟩ : S63) [.int .i64 a0, .int .i64 x8_2, .int .i64 a1, .int .i64 1] (fun _ => True) (fun _ => False) rfl rfl ?aP (fun _ hk => hk.elim) ?aF ?aO ?aB ?aS ?aL ?_; (case aP => exact k63_mkM _ _ _ (⟨a0, x8_2, a1, 1⟩ : S63)); (case aB => exact (mB HB.out)); (case aF => exact (fun _ _ => trivial)); (case aO => exact (mR HO_7.out)); (case aS => exact (below_size (mB HB.out))); (case aL => have := LMc30.out; omega); intro v374 w31 ho hb hg hat; rw [← Ny373.out] at ho; have n0_ := Aside0.mk (hb); have n1_ := Aside0.mk (ho); clear HB; clear HO_7; have HB := n0_; have HO375 := n1_; clear n0_ n1_; clear ho hb hg hat))
           go_roundg k2
           case measure => have := HJ3.out; have := HK2.out; omega
           case rel => exact ⟨(y373), (wrap64 (x8_2 + 1)), ez, H', ⟨by have := HJ3.out; have := HK2.out; omega⟩, ⟨mR HO375.out⟩, ⟨mB HB.out⟩⟩
          ·rw [if_neg c30] at H
           exact absurd H (by simp)
       ·rw [if_neg c13] at H
        exact absurd H (by simp)
      ·rw [if_neg c11] at H
       have c11b0 : decide (x8_2 < 32) = false := decide_eq_false c11
       clear c11
       obtain rfl := Option.some.inj H
       go_wp2
       go_ret
       exact ⟨_, by first | rfl | (simp [errW_none, errW_some] <;> rfl) | (simp [*, errW_none, errW_some] <;> rfl), mR HO_7.out, by repeat (first | (with_reducible first | exact HB.out | apply below_alloc | apply pw_below_drewN | apply below_drew1) | exact HB.out)⟩

end Go.Proofs.Ytkhfgflcanmefaa.PAll
end
section
namespace Go.Proofs.Ytkhfgflcanmefaa.PAll
open Go.RowKit Go.Proofs.YtkhfgflcanmefaaW.PrintWords Go.Proofs.YtkhfgflcanmefaaW.PrintLast Go.Proofs.YtkhfgflcanmefaaW.PrintMore
attribute [local go_sem] max2_int min2_int max_two min_two max_three min_three max_four min_four   -- for this text's walks alone
set_option linter.unusedVariables false
set_option linter.unusedSimpArgs false

def prebendref19_Boxes.l0 : Nat → List (S32) → List (S63) → Int → Option ((List (S63)))
 | 0, _, _, _ => none
 | k + 1, x0, x3, x4 => if x4 < (x0.length : Int) then (if 0 ≤ x4 then (if ((rd_T32 x0 x4).f7) = 3 then ((prebendref02_Rows.f k ((rd_T32 x0 x4).f8) ((rd_T32 x0 x4).f3) ((rd_T32 x0 x4).f9)).bind fun t383 => (if x3.length + t383.length < 4398046511104 then (prebendref19_Boxes.l0 k x0 (x3 ++ t383) (wrap64 (x4 + 1))) else (none))) else (prebendref19_Boxes.l0 k x0 x3 (wrap64 (x4 + 1)))) else (none)) else (some x3)
def prebendref19_Boxes.f (k : Nat) (l0 : List (S32)) : Option ((List (S63))) := prebendref19_Boxes.l0 k l0 (([] : List (S63))) 0
theorem prebendref19_Boxes.mono_l : ∀ k, (∀ y0 y1 y2, LeO (prebendref19_Boxes.l0 k y0 y1 y2) (prebendref19_Boxes.l0 (k + 1) y0 y1 y2))
 | 0 => fun _ _ _ r h => by simp [prebendref19_Boxes.l0] at h
 | k + 1 => by
  have ih0 := prebendref19_Boxes.mono_l k
  ·intro y0 y1 y2
   unfold prebendref19_Boxes.l0
   repeat' first
   | (with_reducible exact ih0 _ _ _)
   | (with_reducible exact prebendref02_Rows.mono _ _ _ _)
   | (with_reducible exact LeO.refl _)
   | (with_reducible exact LeO.none _)
   | (with_reducible refine LeO.ite ?_ ?_)
   | (with_reducible refine LeO.bind ?_ (fun _ => ?_))
   | exact ih0 _ _ _
   | exact prebendref02_Rows.mono _ _ _ _
   | exact LeO.none _
   | refine LeO.ite ?_ ?_
   | refine LeO.bind ?_ (fun _ => ?_)
theorem prebendref19_Boxes.mono : ∀ a0 k, LeO (prebendref19_Boxes.f k a0) (prebendref19_Boxes.f (k + 1) a0) := by
 intro a0 k
 have ih0 := prebendref19_Boxes.mono_l k
 unfold prebendref19_Boxes.f
 repeat' first
   | (with_reducible exact ih0 _ _ _)
   | (with_reducible exact prebendref02_Rows.mono _ _ _ _)
   | (with_reducible exact LeO.refl _)
   | (with_reducible exact LeO.none _)
   | (with_reducible refine LeO.ite ?_ ?_)
   | (with_reducible refine LeO.bind ?_ (fun _ => ?_))
   | exact ih0 _ _ _
   | exact prebendref02_Rows.mono _ _ _ _
   | exact LeO.none _
   | refine LeO.ite ?_ ?_
   | refine LeO.bind ?_ (fun _ => ?_)
def prebendref19_Boxes.T6 : Bool × List (List Nat × List Nat) := (true, [([], []), ([], []), ([], []), ([1, 2], [1, 2]), ([3], [3]), ([4], [4]), ([], []), ([], []), ([6, 7], [6, 7]), ([8], [8]), ([9], [9]), ([], []), ([], []), ([11, 12], [11, 12]), ([13], [13]), ([14], [14]), ([5, 10, 15], [5, 10, 15]), ([0, 16, 16], [0, 16]), ([17, 17, 0, 1, 2, 3, 4, 5, 6, 7, 8, 9, 10, 11, 12, 13, 14, 15, 16, 17], [0, 17])])
def prebendref19_Boxes.B6 : List Nat := [0, 0, 0, 6, 14, 30, 0, 0, 192, 448, 960, 0, 0, 6144, 14336, 30720, 65534, 131071, 262143]
theorem prebendref19_Boxes.tab6 : rtab .any (opsOf Try.f26 6) = prebendref19_Boxes.T6 := by kernel_rfl
theorem prebendref19_Boxes.bits6 : waitsOk prebendref19_Boxes.T6.2 prebendref19_Boxes.B6 = true := by kernel_rfl
set_option maxHeartbeats 8000000 in
set_option maxRecDepth 100000 in
theorem prebendref19_Boxes.calls (k : Nat) (A0 : Option Addr) (c0 : Nat) (l0 : List (S32)) (r : List (S63)) (w : World) (hr0 : Kd.C k32 w A0 l0.length l0) (hc0 : l0.length ≤ c0) (h : prebendref19_Boxes.f k l0 = some r) :
  Calls Try.prog 26 #[.slice A0 l0.length c0] w fun e w' => ∃ v0_ : Value, e = .returned (v0_) ∧ Kd.R k63 63 w' w.heap.size (fun _ => True) v0_ r ∧ Below w.heap.size w w' := by
 have HR0 := Aside0.mk hr0
 have HC0 := Aside0.mk hc0
 clear hr0; clear hc0
 have HB := Aside0.mk (Below.refl w.heap.size w)
 have H : (prebendref19_Boxes.l0 k l0 (([] : List (S63))) 0) = some r := h
 clear h
 obtain ⟨y376, hy376⟩ : ∃ y_ : List (S63), y_ = (([] : List (S63))) := ⟨_, rfl⟩
 replace H : (prebendref19_Boxes.l0 k l0 y376 0) = some r := mH hy376 H
 have Ny376 := Aside0.mk hy376
 clear hy376
 have H' := Aside0.mk H
 clear H
 go_enter Try.func26, Try.ntmps26
 go_wp2_with (first | ((with_reducible refine gate_dst (N := 5) rfl ?_); refine Kd.R_lit k63 _ 63 ?hg (N := 5) ?hd (xs := ([] : List (S63))) (inner := []) (ok := fun _ => True) (okp := fun _ => True) ?hr ?hp (fun _ hk => hk) trivial (Below.refl _ _) (Nat.le_refl _) (by simp) ?_; (case hd => rfl); (case hg => rfl); (case hr => first | (go_simp; done) | (go_simp; rfl)); (case hp => exact (Reps.none _ _)); intro v377 w2 ho3 hb hg_ hnew_; clear hg_ hnew_; (first | rw [← Ny376.out] at ho3 | (simp only [Int.reduceToNat] at ho3; rw [← Ny376.out] at ho3)); have n0_ := Aside0.mk (Kd.R_lower ho3 (below_size (mB HB.out))); have n1_ := Aside0.mk (below_step (mB HB.out) hb); clear HB; have HO378 := n0_; have HB := n1_; clear n0_ n1_; clear hb ho3))
 go_loopg [3, 4] k (fun kq v3 v4 w' => ∃ (x3_1 : List (S63)) (x4_1 : Int), v4 = .int .i64 x4_1 ∧ Aside0 (prebendref19_Boxes.l0 kq l0 x3_1 x4_1 = some r) ∧ Aside0 (kq ≤ k) ∧ Aside0 (Kd.R k63 63 w' w.heap.size (fun _ => True) v3 x3_1) ∧ Aside0 (Below w.heap.size w w'))
 case atStart => exact ⟨(y376), (0), ez, H', ⟨Nat.le_refl _⟩, ⟨mR HO378.out⟩, ⟨mB HB.out⟩⟩
 case round =>
  clear H'
  (try clear c2); (try clear p2)
  obtain ⟨x3_1, x4_1, rfl, HA, HK1, HO_3, HB⟩ := hrel
  cases gk with
  | zero => exact absurd HA.out (by simp [prebendref19_Boxes.l0])
  | succ k1 =>
   have H := HA.out
   clear HA
   simp only [prebendref19_Boxes.l0] at H
   by_cases c4 : x4_1 < (l0.length : Int)
   ·rw [if_pos c4] at H
    have c4b0 : decide (x4_1 < (l0.length : Int)) = true := decide_eq_true c4
    clear c4
    by_cases c5 : 0 ≤ x4_1
    ·rw [if_pos c5] at H
     have c5b0 : decide (0 ≤ x4_1) = true := decide_eq_true c5
     clear c5
     by_cases c6 : ((rd_T32 l0 x4_1).f7) = 3
     ·rw [if_pos c6] at H
      have c6b0 : (((rd_T32 l0 x4_1).f7) == 3) = true := beq_iff_eq.mpr c6
      have c6b1 : (((rd_T32 l0 x4_1).f7) != 3) = false := bne_eq_false_iff_eq.mpr c6
      clear c6
      replace H := Option.bind_eq_some_iff.mp H
      obtain ⟨t383, A70, H⟩ := H
      replace H : (if x3_1.length + t383.length < 4398046511104 then (prebendref19_Boxes.l0 k1 l0 (x3_1 ++ t383) (wrap64 (x4_1 + 1))) else (none)) = some r := H
      have A7 := Aside0.mk A70
      clear A70
      by_cases c8 : x3_1.length + t383.length < 4398046511104
      ·rw [if_pos c8] at H
       have LMc8 := Aside0.mk c8
       clear c8
       obtain ⟨y386, hy386⟩ : ∃ y_ : List (S63), y_ = (x3_1 ++ t383) := ⟨_, rfl⟩
       replace H : (prebendref19_Boxes.l0 k1 l0 y386 (wrap64 (x4_1 + 1))) = some r := mH hy386 H
       have Ny386 := Aside0.mk hy386
       clear hy386
       have H' := Aside0.mk H
       clear H
       have p379 : 0 ≤ (x4_1 : Int) := oda
       have q379 : x4_1 < (l0.length : Int) := oda
       obtain ⟨ad379, e379, hx379_0, hx379_1, hx379_2, hx379_3, hx379_4, hx379_5, hx379_6, hx379_7, hx379_8, hx379_9, hx379_10, hx379_11⟩ := at_T32 HR0.out x4_1 p379 q379
       cases e379
       replace hx379_0 := hs_ HB.out hx379_0
       replace hx379_1 := hs_ HB.out hx379_1
       replace hx379_2 := hs_ HB.out hx379_2
       replace hx379_3 := hs_ HB.out hx379_3
       replace hx379_4 := hs_ HB.out hx379_4
       replace hx379_5 := hs_ HB.out hx379_5
       replace hx379_6 := hs_ HB.out hx379_6
       replace hx379_7 := hs_ HB.out hx379_7
       replace hx379_8 := hs_ HB.out hx379_8
       replace hx379_9 := hs_ HB.out hx379_9
       replace hx379_10 := hs_ HB.out hx379_10
       replace hx379_11 := hs_ HB.out hx379_11
       replace p379 := eq_true p379
       replace q379 := eq_true q379
       try go_wp2
       have n0_ := Aside0.mk (Kd.R_drew HO_3.out)
       have n1_ := Aside0.mk (below_drew1 HB.out)
       clear HO_3; clear HB
       have HO_3 := n0_
       have HB := n1_
       clear n0_; clear n1_
       have p380 : 0 ≤ (x4_1 : Int) := oda
       have q380 : x4_1 < (l0.length : Int) := oda
       obtain ⟨ad380, e380, hx380_0, hx380_1, hx380_2, hx380_3, hx380_4, hx380_5, hx380_6, hx380_7, hx380_8, hx380_9, hx380_10, hx380_11⟩ := at_T32 HR0.out x4_1 p380 q380
       have hw380_11 := hx380_11
       have hw380_10 := hx380_10
       have hw380_9 := hx380_9
       have hw380_8 := hx380_8
       have hw380_7 := hx380_7
       have hw380_6 := hx380_6
       have hw380_5 := hx380_5
       have hw380_4 := hx380_4
       have hw380_3 := hx380_3
       have hw380_2 := hx380_2
       have hw380_1 := hx380_1
       have hw380_0 := hx380_0
       obtain rfl : ad379 = ad380 := (by injection e380)
       replace hx380_0 := hs_ HB.out hx380_0
       replace hx380_1 := hs_ HB.out hx380_1
       replace hx380_2 := hs_ HB.out hx380_2
       replace hx380_3 := hs_ HB.out hx380_3
       replace hx380_4 := hs_ HB.out hx380_4
       replace hx380_5 := hs_ HB.out hx380_5
       replace hx380_6 := hs_ HB.out hx380_6
       replace hx380_7 := hs_ HB.out hx380_7
       replace hx380_8 := hs_ HB.out hx380_8
       replace hx380_9 := hs_ HB.out hx380_9
       replace hx380_10 := hs_ HB.out hx380_10
       replace hx380_11 := hs_ HB.out hx380_11
       replace p380 := eq_true p380
       replace q380 := eq_true q380
       have p381 : 0 ≤ (x4_1 : Int) := oda
       have q381 : x4_1 < (l0.length : Int) := oda
       obtain ⟨ad381, e381, hx381_0, hx381_1, hx381_2, hx381_3, hx381_4, hx381_5, hx381_6, hx381_7, hx381_8, hx381_9, hx381_10, hx381_11⟩ := at_T32 HR0.out x4_1 p381 q381
       have hw381_11 := hx381_11
       have hw381_10 := hx381_10
       have hw381_9 := hx381_9
       have hw381_8 := hx381_8
       have hw381_7 := hx381_7
       have hw381_6 := hx381_6
       have hw381_5 := hx381_5
       have hw381_4 := hx381_4
       have hw381_3 := hx381_3
       have hw381_2 := hx381_2
       have hw381_1 := hx381_1
       have hw381_0 := hx381_0
       obtain rfl : ad379 = ad381 := (by injection e381)
       replace hx381_0 := hs_ HB.out hx381_0
       replace hx381_1 := hs_ HB.out hx381_1
       replace hx381_2 := hs_ HB.out hx381_2
       replace hx381_3 := hs_ HB.out hx381_3
       replace hx381_4 := hs_ HB.out hx381_4
       replace hx381_5 := hs_ HB.out hx381_5
       replace hx381_6 := hs_ HB.out hx381_6
       replace hx381_7 := hs_ HB.out hx381_7
       replace hx381_8 := hs_ HB.out hx381_8
       replace hx381_9 := hs_ HB.out hx381_9
       replace hx381_10 := hs_ HB.out hx381_10
       replace hx381_11 := hs_ HB.out hx381_11
       replace p381 := eq_true p381
       replace q381 := eq_true q381
       have p382 : 0 ≤ (x4_1 : Int) := oda
       have q382 : x4_1 < (l0.length : Int) := oda
       obtain ⟨ad382, e382, hx382_0, hx382_1, hx382_2, hx382_3, hx382_4, hx382_5, hx382_6, hx382_7, hx382_8, hx382_9, hx382_10, hx382_11⟩ := at_T32 HR0.out x4_1 p382 q382
       have hw382_11 := hx382_11
       have hw382_10 := hx382_10
       have hw382_9 := hx382_9
       have hw382_8 := hx382_8
       have hw382_7 := hx382_7
       have hw382_6 := hx382_6
       have hw382_5 := hx382_5
       have hw382_4 := hx382_4
       have hw382_3 := hx382_3
       have hw382_2 := hx382_2
       have hw382_1 := hx382_1
       have hw382_0 := hx382_0
       obtain rfl : ad379 = ad382 := (by injection e382)
       replace hx382_0 := hs_ HB.out hx382_0
       replace hx382_1 := hs_ HB.out hx382_1
       replace hx382_2 := hs_ HB.out hx382_2
       replace hx382_3 := hs_ HB.out hx382_3
       replace hx382_4 := hs_ HB.out hx382_4
       replace hx382_5 := hs_ HB.out hx382_5
       replace hx382_6 := hs_ HB.out hx382_6
       replace hx382_7 := hs_ HB.out hx382_7
       replace hx382_8 := hs_ HB.out hx382_8
       replace hx382_9 := hs_ HB.out hx382_9
       replace hx382_10 := hs_ HB.out hx382_10
       replace hx382_11 := hs_ HB.out hx382_11
       replace p382 := eq_true p382
       replace q382 := eq_true q382
       refine start_ (n := 19) (S := fun w' => c12 w' (ad379.add ((x4_1).toNat * 12)) (rd_T32 l0 x4_1) <| c12 w' (ad379.add ((x4_1).toNat * 12)) (rd_T32 l0 x4_1) <| c12e w' (ad379.add ((x4_1).toNat * 12)) (rd_T32 l0 x4_1)) (ds := []) #[false, false, false, false, false, false, false, false, false, false, false, false, false, false, false, false, false, false, false] (by kernel_rfl) rfl rfl ⟨((HB.out.cell (World.block_lt_of_cell? w _ hw380_0)).trans hw380_0), ((HB.out.cell (World.block_lt_of_cell? w _ hw380_1)).trans hw380_1), ((HB.out.cell (World.block_lt_of_cell? w _ hw380_2)).trans hw380_2), ((HB.out.cell (World.block_lt_of_cell? w _ hw380_3)).trans hw380_3), ((HB.out.cell (World.block_lt_of_cell? w _ hw380_4)).trans hw380_4), ((HB.out.cell (World.block_lt_of_cell? w _ hw380_5)).trans hw380_5), ((HB.out.cell (World.block_lt_of_cell? w _ hw380_6)).trans hw380_6), ((HB.out.cell (World.block_lt_of_cell? w _ hw380_7)).trans hw380_7), ((HB.out.cell (World.block_lt_of_cell? w _ hw380_8)).trans hw380_8), ((HB.out.cell (World.block_lt_of_cell? w _ hw380_9)).trans hw380_9), ((HB.out.cell (World.block_lt_of_cell? w _ hw380_10)).trans hw380_10), ((HB.out.cell (World.block_lt_of_cell? w _ hw380_11)).trans hw380_11), ((HB.out.cell (World.block_lt_of_cell? w _ hw381_0)).trans hw381_0), ((HB.out.cell (World.block_lt_of_cell? w _ hw381_1)).trans hw381_1), ((HB.out.cell (World.block_lt_of_cell? w _ hw381_2)).trans hw381_2), ((HB.out.cell (World.block_lt_of_cell? w _ hw381_3)).trans hw381_3), ((HB.out.cell (World.block_lt_of_cell? w _ hw381_4)).trans hw381_4), ((HB.out.cell (World.block_lt_of_cell? w _ hw381_5)).trans hw381_5), ((HB.out.cell (World.block_lt_of_cell? w _ hw381_6)).trans hw381_6), ((HB.out.cell (World.block_lt_of_cell? w _ hw381_7)).trans hw381_7), ((HB.out.cell (World.block_lt_of_cell? w _ hw381_8)).trans hw381_8), ((HB.out.cell (World.block_lt_of_cell? w _ hw381_9)).trans hw381_9), ((HB.out.cell (World.block_lt_of_cell? w _ hw381_10)).trans hw381_10), ((HB.out.cell (World.block_lt_of_cell? w _ hw381_11)).trans hw381_11), ((HB.out.cell (World.block_lt_of_cell? w _ hw382_0)).trans hw382_0), ((HB.out.cell (World.block_lt_of_cell? w _ hw382_1)).trans hw382_1), ((HB.out.cell (World.block_lt_of_cell? w _ hw382_2)).trans hw382_2), ((HB.out.cell (World.block_lt_of_cell? w _ hw382_3)).trans hw382_3), ((HB.out.cell (World.block_lt_of_cell? w _ hw382_4)).trans hw382_4), ((HB.out.cell (World.block_lt_of_cell? w _ hw382_5)).trans hw382_5), ((HB.out.cell (World.block_lt_of_cell? w _ hw382_6)).trans hw382_6), ((HB.out.cell (World.block_lt_of_cell? w _ hw382_7)).trans hw382_7), ((HB.out.cell (World.block_lt_of_cell? w _ hw382_8)).trans hw382_8), ((HB.out.cell (World.block_lt_of_cell? w _ hw382_9)).trans hw382_9), ((HB.out.cell (World.block_lt_of_cell? w _ hw382_10)).trans hw382_10), ((HB.out.cell (World.block_lt_of_cell? w _ hw382_11)).trans hw382_11)⟩ (fun hHeld => ?_); refine with_tabW prebendref19_Boxes.tab6 prebendref19_Boxes.bits6 (fun HT_ HW_ => ?_)
       generalize wr.drew = w9 at HO_3 HB hx380_0 hx380_1 hx380_10 hx380_11 hx380_2 hx380_3 hx380_4 hx380_5 hx380_6 hx380_7 hx380_8 hx380_9 hx381_0 hx381_1 hx381_10 hx381_11 hx381_2 hx381_3 hx381_4 hx381_5 hx381_6 hx381_7 hx381_8 hx381_9 hx382_0 hx382_1 hx382_10 hx382_11 hx382_2 hx382_3 hx382_4 hx382_5 hx382_6 hx382_7 hx382_8 hx382_9 hHeld ⊢
       refine plan_ [(0, 18), (1, 19), (2, 20), (3, 21), (4, 22), (6, 24), (7, 25), (8, 26), (9, 27), (11, 29), (12, 30), (13, 31), (14, 32)] ?_
       iterate 13 (refine planP_ (v := ?_) (a' := ?_) rfl rfl (any_of HT_.out (by kernel_rfl)) (fun _ _ _ h => h) (Or.inl ⟨by rfl, ?_⟩) ?_ ?_; rotate_left; (intro w'; go_simp; with_reducible rfl); rotate_left; (simp only [Act.put, List.setIfInBounds_toArray, List.set_cons_zero, List.set_cons_succ, i64_w, i32_w]; rfl))
       refine planEnd_ ?_
       refine plan_ [(5, 23), (10, 28), (15, 33)] ?_
       iterate 3 (refine planT_ (v := ?_) (a' := ?_) rfl rfl (take_ofW HT_.out HW_.out (by kernel_rfl)) (fun _ _ _ h => h) (Or.inl ⟨by rfl, ?_⟩) hHeld ?_ ?_; rotate_left; (rintro w' ⟨s0, s1, s2, s3, s4, s5, s6, s7, s8, s9, s10, s11, s12, s13, s14, s15, s16, s17, s18, s19, s20, s21, s22, s23, s24, s25, s26, s27, s28, s29, s30, s31, s32, s33, s34, s35⟩; go_simp; with_reducible rfl); rotate_left; (simp only [Act.put, List.setIfInBounds_toArray, List.set_cons_zero, List.set_cons_succ, i64_w, i32_w]; rfl))
       refine planEnd_ ?_
       refine one_ (i := 16) (N := some 34) #[true, true, true, true, true, true, true, true, true, true, true, true, true, true, true, true, true, false, false] rfl rfl (one_of HT_.out (by kernel_rfl)) (by decide) (fun K hK => ?_)
       refine goes_ Try.func45 (by kernel_rfl) rfl #[.int .i64 ((rd_T32 l0 x4_1).f8), .int .i64 ((rd_T32 l0 x4_1).f3), .int .i64 ((rd_T32 l0 x4_1).f9)] (by rfl) rfl rfl mt ?_
       with_reducible refine (prebendref02_Rows.calls k1 ((rd_T32 l0 x4_1).f8) ((rd_T32 l0 x4_1).f3) ((rd_T32 l0 x4_1).f9) t383 _ A7.out).mono ?_
       rintro e w10 ⟨v384, rfl, ho0, hb⟩
       refine ⟨_, rfl, ?_⟩
       have n0_ := Aside0.mk (Kd.R_elder' (mR HO_3.out) (Kd.R_base ho0) hb)
       have n1_ := Aside0.mk (Kd.R_lower (Kd.R_new' ho0 (Kd.R_lt (mR HO_3.out))) (below_size (mB HB.out)))
       have n2_ := Aside0.mk (below_step (mB HB.out) hb)
       clear HO_3; clear HB
       have HO_3 := n0_
       have HO385 := n1_
       have HB := n2_
       clear n0_; clear n1_; clear n2_
       (try clear hb); (try clear hb2); (try clear hk); (try clear hi); (try clear ho0)
       obtain ⟨Ao12, co12, eo12⟩ := Kd.R_slice HO385.out
       (first | subst eo12 | (injection eo12 with f1_ f2_ f3_; have f4_ := f1_.symm; have f5_ := f3_.symm; clear f1_ f2_ f3_; subst f4_; subst f5_))
       refine hK.out _ _ ⟨((HB.out.cell (World.block_lt_of_cell? w _ hw380_0)).trans hw380_0), ((HB.out.cell (World.block_lt_of_cell? w _ hw380_1)).trans hw380_1), ((HB.out.cell (World.block_lt_of_cell? w _ hw380_2)).trans hw380_2), ((HB.out.cell (World.block_lt_of_cell? w _ hw380_3)).trans hw380_3), ((HB.out.cell (World.block_lt_of_cell? w _ hw380_4)).trans hw380_4), ((HB.out.cell (World.block_lt_of_cell? w _ hw380_5)).trans hw380_5), ((HB.out.cell (World.block_lt_of_cell? w _ hw380_6)).trans hw380_6), ((HB.out.cell (World.block_lt_of_cell? w _ hw380_7)).trans hw380_7), ((HB.out.cell (World.block_lt_of_cell? w _ hw380_8)).trans hw380_8), ((HB.out.cell (World.block_lt_of_cell? w _ hw380_9)).trans hw380_9), ((HB.out.cell (World.block_lt_of_cell? w _ hw380_10)).trans hw380_10), ((HB.out.cell (World.block_lt_of_cell? w _ hw380_11)).trans hw380_11), ((HB.out.cell (World.block_lt_of_cell? w _ hw381_0)).trans hw381_0), ((HB.out.cell (World.block_lt_of_cell? w _ hw381_1)).trans hw381_1), ((HB.out.cell (World.block_lt_of_cell? w _ hw381_2)).trans hw381_2), ((HB.out.cell (World.block_lt_of_cell? w _ hw381_3)).trans hw381_3), ((HB.out.cell (World.block_lt_of_cell? w _ hw381_4)).trans hw381_4), ((HB.out.cell (World.block_lt_of_cell? w _ hw381_5)).trans hw381_5), ((HB.out.cell (World.block_lt_of_cell? w _ hw381_6)).trans hw381_6), ((HB.out.cell (World.block_lt_of_cell? w _ hw381_7)).trans hw381_7), ((HB.out.cell (World.block_lt_of_cell? w _ hw381_8)).trans hw381_8), ((HB.out.cell (World.block_lt_of_cell? w _ hw381_9)).trans hw381_9), ((HB.out.cell (World.block_lt_of_cell? w _ hw381_10)).trans hw381_10), ((HB.out.cell (World.block_lt_of_cell? w _ hw381_11)).trans hw381_11), ((HB.out.cell (World.block_lt_of_cell? w _ hw382_0)).trans hw382_0), ((HB.out.cell (World.block_lt_of_cell? w _ hw382_1)).trans hw382_1), ((HB.out.cell (World.block_lt_of_cell? w _ hw382_2)).trans hw382_2), ((HB.out.cell (World.block_lt_of_cell? w _ hw382_3)).trans hw382_3), ((HB.out.cell (World.block_lt_of_cell? w _ hw382_4)).trans hw382_4), ((HB.out.cell (World.block_lt_of_cell? w _ hw382_5)).trans hw382_5), ((HB.out.cell (World.block_lt_of_cell? w _ hw382_6)).trans hw382_6), ((HB.out.cell (World.block_lt_of_cell? w _ hw382_7)).trans hw382_7), ((HB.out.cell (World.block_lt_of_cell? w _ hw382_8)).trans hw382_8), ((HB.out.cell (World.block_lt_of_cell? w _ hw382_9)).trans hw382_9), ((HB.out.cell (World.block_lt_of_cell? w _ hw382_10)).trans hw382_10), ((HB.out.cell (World.block_lt_of_cell? w _ hw382_11)).trans hw382_11)⟩ (fun hHeld => ?_)
       clear hK; clear K
       refine norm_ (a' := ?_) ?_ ?_
       rotate_left
       ·show Act.put _ (some 34) _ = _
        simp only [Act.put, List.setIfInBounds_toArray, List.set_cons_zero, List.set_cons_succ, i64_w, i32_w]
        rfl
       refine one_ (i := 17) (N := some 35) #[true, true, true, true, true, true, true, true, true, true, true, true, true, true, true, true, true, true, false] rfl rfl (one_of HT_.out (by kernel_rfl)) (by decide) (fun K hK => ?_)
       refine Kd.R_append_rows_step k63 (w0 := w) w.heap.size (by rfl) (.tmp 18) (.tmp 34) 43 63 (.agg #[(.int .i64 0), (.int .i64 0), (.int .i64 0), (.int .i64 0)]) 32 rfl Try.underlying43 info63 rfl (by decide) (by omega) u3 x3_1 t383 _ _ _ (fun k_ => some k_ ≠ (.slice Ao12 t383.length co12 : Value).ownBlock) (fun _ => False) rfl rfl ?aO ?aR (fun _ _ h => h) (fun _ h => h.elim) ?aF ?aB ?aS ?aL ?_
       (case aR => repeat (first | exact (Kd.R_reads' HO385.out).2.2 | (with_reducible refine Kd.C_alloc ?_ _) | (with_reducible refine Kd.C_drewN ?_ _) | (with_reducible refine Kd.C_drew ?_)))
       (case aB => exact (mB HB.out))
       (case aF => exact (fun k_ hk => Kd.fresh' (Kd.R_lt (mR HO385.out)) k_ hk))
       (case aO => exact (by (with_reducible repeat (first | apply Kd.R_alloc | apply Kd.R_drewN | apply Kd.R_drew)); exact Kd.R_mono HO_3.out (fun _ hk => hk.2)))
       (case aS => exact (below_size (mB HB.out)))
       (case aL => have := LMc8.out; omega)
       intro v387 w11 ho hb hg hat
       rw [← Ny386.out] at ho
       have n0_ := Aside0.mk (Kd.R_after (ok := (fun _ => True)) (mR HO385.out) hg hat)
       have n1_ := Aside0.mk (hb)
       have n2_ := Aside0.mk (ho)
       clear HO385; clear HB; clear HO_3
       have HO385 := n0_
       have HB := n1_
       have HO388 := n2_
       clear n0_; clear n1_; clear n2_; clear ho; clear hb; clear hg; clear hat
       refine hK.out _ _ ⟨((HB.out.cell (World.block_lt_of_cell? w _ hw380_0)).trans hw380_0), ((HB.out.cell (World.block_lt_of_cell? w _ hw380_1)).trans hw380_1), ((HB.out.cell (World.block_lt_of_cell? w _ hw380_2)).trans hw380_2), ((HB.out.cell (World.block_lt_of_cell? w _ hw380_3)).trans hw380_3), ((HB.out.cell (World.block_lt_of_cell? w _ hw380_4)).trans hw380_4), ((HB.out.cell (World.block_lt_of_cell? w _ hw380_5)).trans hw380_5), ((HB.out.cell (World.block_lt_of_cell? w _ hw380_6)).trans hw380_6), ((HB.out.cell (World.block_lt_of_cell? w _ hw380_7)).trans hw380_7), ((HB.out.cell (World.block_lt_of_cell? w _ hw380_8)).trans hw380_8), ((HB.out.cell (World.block_lt_of_cell? w _ hw380_9)).trans hw380_9), ((HB.out.cell (World.block_lt_of_cell? w _ hw380_10)).trans hw380_10), ((HB.out.cell (World.block_lt_of_cell? w _ hw380_11)).trans hw380_11), ((HB.out.cell (World.block_lt_of_cell? w _ hw381_0)).trans hw381_0), ((HB.out.cell (World.block_lt_of_cell? w _ hw381_1)).trans hw381_1), ((HB.out.cell (World.block_lt_of_cell? w _ hw381_2)).trans hw381_2), ((HB.out.cell (World.block_lt_of_cell? w _ hw381_3)).trans hw381_3), ((HB.out.cell (World.block_lt_of_cell? w _ hw381_4)).trans hw381_4), ((HB.out.cell (World.block_lt_of_cell? w _ hw381_5)).trans hw381_5), ((HB.out.cell (World.block_lt_of_cell? w _ hw381_6)).trans hw381_6), ((HB.out.cell (World.block_lt_of_cell? w _ hw381_7)).trans hw381_7), ((HB.out.cell (World.block_lt_of_cell? w _ hw381_8)).trans hw381_8), ((HB.out.cell (World.block_lt_of_cell? w _ hw381_9)).trans hw381_9), ((HB.out.cell (World.block_lt_of_cell? w _ hw381_10)).trans hw381_10), ((HB.out.cell (World.block_lt_of_cell? w _ hw381_11)).trans hw381_11), ((HB.out.cell (World.block_lt_of_cell? w _ hw382_0)).trans hw382_0), ((HB.out.cell (World.block_lt_of_cell? w _ hw382_1)).trans hw382_1), ((HB.out.cell (World.block_lt_of_cell? w _ hw382_2)).trans hw382_2), ((HB.out.cell (World.block_lt_of_cell? w _ hw382_3)).trans hw382_3), ((HB.out.cell (World.block_lt_of_cell? w _ hw382_4)).trans hw382_4), ((HB.out.cell (World.block_lt_of_cell? w _ hw382_5)).trans hw382_5), ((HB.out.cell (World.block_lt_of_cell? w _ hw382_6)).trans hw382_6), ((HB.out.cell (World.block_lt_of_cell? w _ hw382_7)).trans hw382_7), ((HB.out.cell (World.block_lt_of_cell? w _ hw382_8)).trans hw382_8), ((HB.out.cell (World.block_lt_of_cell? w _ hw382_9)).trans hw382_9), ((HB.out.cell (World.block_lt_of_cell? w _ hw382_10)).trans hw382_10), ((HB.out.cell (World.block_lt_of_cell? w _ hw382_11)).trans hw382_11)⟩ (fun hHeld => ?_)
       clear hK; clear K
       refine norm_ (a' := ?_) ?_ ?_
       rotate_left
       ·show Act.put _ (some 35) _ = _
        simp only [Act.put, List.setIfInBounds_toArray, List.set_cons_zero, List.set_cons_succ, i64_w, i32_w]
        rfl
       refine plan_ [(18, 3)] ?_
       refine planP_ (v := ?_) (a' := ?_) rfl rfl (any_of HT_.out (by kernel_rfl)) (fun _ _ _ h => h) (Or.inl ⟨by rfl, ?_⟩) ?_ ?_; rotate_left; (intro w'; go_simp; with_reducible rfl); rotate_left; (simp only [Act.put, List.setIfInBounds_toArray, List.set_cons_zero, List.set_cons_succ, i64_w, i32_w]; rfl)
       refine planEnd_ ?_
       refine done_ (done_of HT_.out (by kernel_rfl)) ?_
       try go_wp2
       go_roundg k1
       case measure => have := HK1.out; omega
       case rel => exact ⟨(y386), (wrap64 (x4_1 + 1)), ez, H', ⟨by have := HK1.out; omega⟩, ⟨by (with_reducible repeat (first | apply Kd.R_alloc | apply Kd.R_drewN | apply Kd.R_drew)); exact Kd.R_mono HO388.out (fun _ hk => trivial)⟩, ⟨mB HB.out⟩⟩
      ·rw [if_neg c8] at H
       exact absurd H (by simp)
     ·rw [if_neg c6] at H
      have c6b0 : (((rd_T32 l0 x4_1).f7) == 3) = false := beq_eq_false_iff_ne.mpr c6
      have c6b1 : (((rd_T32 l0 x4_1).f7) != 3) = true := bne_iff_ne.mpr c6
      have H' := Aside0.mk H
      clear H
      have p379 : 0 ≤ (x4_1 : Int) := oda
      have q379 : x4_1 < (l0.length : Int) := oda
      obtain ⟨ad379, e379, hx379_0, hx379_1, hx379_2, hx379_3, hx379_4, hx379_5, hx379_6, hx379_7, hx379_8, hx379_9, hx379_10, hx379_11⟩ := at_T32 HR0.out x4_1 p379 q379
      cases e379
      replace hx379_0 := hs_ HB.out hx379_0
      replace hx379_1 := hs_ HB.out hx379_1
      replace hx379_2 := hs_ HB.out hx379_2
      replace hx379_3 := hs_ HB.out hx379_3
      replace hx379_4 := hs_ HB.out hx379_4
      replace hx379_5 := hs_ HB.out hx379_5
      replace hx379_6 := hs_ HB.out hx379_6
      replace hx379_7 := hs_ HB.out hx379_7
      replace hx379_8 := hs_ HB.out hx379_8
      replace hx379_9 := hs_ HB.out hx379_9
      replace hx379_10 := hs_ HB.out hx379_10
      replace hx379_11 := hs_ HB.out hx379_11
      replace p379 := eq_true p379
      replace q379 := eq_true q379
      go_wp2
      go_roundg k1
      case measure => have := HK1.out; omega
      case rel => exact ⟨(x3_1), (wrap64 (x4_1 + 1)), ez, H', ⟨by have := HK1.out; omega⟩, ⟨mR HO_3.out⟩, ⟨mB HB.out⟩⟩
    ·rw [if_neg c5] at H
     exact absurd H (by simp)
   ·rw [if_neg c4] at H
    have c4b0 : decide (x4_1 < (l0.length : Int)) = false := decide_eq_false c4
    clear c4
    obtain rfl := Option.some.inj H
    go_wp2
    go_ret
    exact ⟨_, by first | rfl | (simp [errW_none, errW_some] <;> rfl) | (simp [*, errW_none, errW_some] <;> rfl), mR HO_3.out, by repeat (first | (with_reducible first | exact HB.out | apply below_alloc | apply pw_below_drewN | apply below_drew1) | exact HB.out)⟩

end Go.Proofs.Ytkhfgflcanmefaa.PAll
end
