/- Contracts of functions of the program, each with a plain function of the same answers; written by a program of this workplace. -/
import Derived.Test.YtfdlncakhnlgoaaPAllx0
import Derived.Test.YtfdlncakhnlgoaaPAllx19
import Derived.Test.YtfdlncakhnlgoaaPAllx21
namespace Go.Proofs.Ytfdlncakhnlgoaa.PAll
open Go.RowKit Go.Proofs.YtfdlncakhnlgoaaW.PrintWords Go.Proofs.YtfdlncakhnlgoaaW.PrintLast Go.Proofs.YtfdlncakhnlgoaaW.PrintMore
attribute [local go_sem] max2_int min2_int max_two min_two max_three min_three max_four min_four   -- for this text's walks alone
set_option linter.unusedVariables false
set_option linter.unusedSimpArgs false

/-! ### prebendref08_Use: function 15 -/
mutual
def prebendref08_Use.j0 : Nat → List (S40) → List (S43) → Int → Bool → Option (Int × Int)
  | 0, _, _, _, _ => none
  | k + 1, x0, x1, x2, x17 => if x17 = true then (some (0, 4)) else (prebendref08_Use.l0 k x0 x1 x2 (([] : List Int)) 0)
def prebendref08_Use.l0 : Nat → List (S40) → List (S43) → Int → List Int → Int → Option (Int × Int)
  | 0, _, _, _, _, _ => none
  | k + 1, x0, x1, x2, x8, x9 => if x9 < (x1.length : Int) then (if 0 ≤ x9 then ((prebendref08_Below.f k x0 ((rd_T43 x1 x9).f0) x2).bind fun t227 => (if t227 = true then ((some (([(rd_T43 x1 x9).f4] : List Int) : List Int)).bind fun y229 => (if x8.length + y229.length < 17592186044416 then ((some (x8 ++ y229 : List Int)).bind fun y232 => ((some (([(rd_T43 x1 x9).f5] : List Int) : List Int)).bind fun y236 => (if y232.length + y236.length < 17592186044416 then (prebendref08_Use.l0 k x0 x1 x2 (y232 ++ y236) (wrap64 (x9 + 1))) else (none)))) else (none))) else (prebendref08_Use.l0 k x0 x1 x2 x8 (wrap64 (x9 + 1))))) else (none)) else ((prebendref01_Add.f k x8).bind fun bt242 => (some (bt242.1, bt242.2)))
end
def prebendref08_Use.f (k : Nat) (l0 : List (S40)) (l1 : List (S43)) (a2 : Int) : Option (Int × Int) := if a2 < 0 then (prebendref08_Use.j0 k l0 l1 a2 true) else (prebendref08_Use.j0 k l0 l1 a2 (decide (a2 ≥ (l0.length : Int))))
theorem prebendref08_Use.mono_l : ∀ k, (∀ y0 y1 y2 y3, LeO (prebendref08_Use.j0 k y0 y1 y2 y3) (prebendref08_Use.j0 (k + 1) y0 y1 y2 y3)) ∧ (∀ y0 y1 y2 y3 y4, LeO (prebendref08_Use.l0 k y0 y1 y2 y3 y4) (prebendref08_Use.l0 (k + 1) y0 y1 y2 y3 y4))
  | 0 => ⟨fun _ _ _ _ r h => by simp [prebendref08_Use.j0] at h, fun _ _ _ _ _ r h => by simp [prebendref08_Use.l0] at h⟩
  | k + 1 => by
    obtain ⟨ih0, ih1⟩ := prebendref08_Use.mono_l k
    refine ⟨?_, ?_⟩
    · intro y0 y1 y2 y3
      unfold prebendref08_Use.j0
      repeat' first
      | (with_reducible exact ih0 _ _ _ _)
      | (with_reducible exact ih1 _ _ _ _ _)
      | (with_reducible exact prebendref01_Add.mono _ _)
      | (with_reducible exact prebendref08_Below.mono _ _ _ _)
      | (with_reducible exact LeO.refl _)
      | (with_reducible exact LeO.none _)
      | (with_reducible refine LeO.ite ?_ ?_)
      | (with_reducible refine LeO.bind ?_ (fun _ => ?_))
      | exact ih0 _ _ _ _
      | exact ih1 _ _ _ _ _
      | exact prebendref01_Add.mono _ _
      | exact prebendref08_Below.mono _ _ _ _
      | exact LeO.none _
      | refine LeO.ite ?_ ?_
      | refine LeO.bind ?_ (fun _ => ?_)
    · intro y0 y1 y2 y3 y4
      unfold prebendref08_Use.l0
      repeat' first
      | (with_reducible exact ih0 _ _ _ _)
      | (with_reducible exact ih1 _ _ _ _ _)
      | (with_reducible exact prebendref01_Add.mono _ _)
      | (with_reducible exact prebendref08_Below.mono _ _ _ _)
      | (with_reducible exact LeO.refl _)
      | (with_reducible exact LeO.none _)
      | (with_reducible refine LeO.ite ?_ ?_)
      | (with_reducible refine LeO.bind ?_ (fun _ => ?_))
      | exact ih0 _ _ _ _
      | exact ih1 _ _ _ _ _
      | exact prebendref01_Add.mono _ _
      | exact prebendref08_Below.mono _ _ _ _
      | exact LeO.none _
      | refine LeO.ite ?_ ?_
      | refine LeO.bind ?_ (fun _ => ?_)
theorem prebendref08_Use.mono : ∀ a0 a1 a2 k, LeO (prebendref08_Use.f k a0 a1 a2) (prebendref08_Use.f (k + 1) a0 a1 a2) := by
  intro a0 a1 a2 k
  obtain ⟨ih0, ih1⟩ := prebendref08_Use.mono_l k
  unfold prebendref08_Use.f
  repeat' first
      | (with_reducible exact ih0 _ _ _ _)
      | (with_reducible exact ih1 _ _ _ _ _)
      | (with_reducible exact prebendref01_Add.mono _ _)
      | (with_reducible exact prebendref08_Below.mono _ _ _ _)
      | (with_reducible exact LeO.refl _)
      | (with_reducible exact LeO.none _)
      | (with_reducible refine LeO.ite ?_ ?_)
      | (with_reducible refine LeO.bind ?_ (fun _ => ?_))
      | exact ih0 _ _ _ _
      | exact ih1 _ _ _ _ _
      | exact prebendref01_Add.mono _ _
      | exact prebendref08_Below.mono _ _ _ _
      | exact LeO.none _
      | refine LeO.ite ?_ ?_
      | refine LeO.bind ?_ (fun _ => ?_)
def prebendref08_Use.T8 : Bool × List (List Nat × List Nat) := (true, [([], []), ([], []), ([], []), ([1, 2], [1, 2]), ([3], [3]), ([4], [4]), ([5], [5]), ([0, 6], [0, 6]), ([], []), ([], []), ([8, 9], [8, 9]), ([10], [10]), ([11], [11]), ([12], [12]), ([7, 13, 7], [7, 13]), ([14, 14, 0, 1, 2, 3, 4, 5, 6, 7, 8, 9, 10, 11, 12, 13, 14], [0, 14])])
def prebendref08_Use.B8 : List Nat := [0, 0, 0, 6, 14, 30, 62, 127, 0, 0, 768, 1792, 3840, 7936, 16383, 32767]
theorem prebendref08_Use.tab8 : rtab .any (opsOf Try.f15 8) = prebendref08_Use.T8 := by kernel_rfl
theorem prebendref08_Use.bits8 : waitsOk prebendref08_Use.T8.2 prebendref08_Use.B8 = true := by kernel_rfl
set_option maxHeartbeats 8000000 in
set_option maxRecDepth 100000 in
theorem prebendref08_Use.calls (k : Nat) (A0 : Option Addr) (c0 : Nat) (l0 : List (S40)) (A1 : Option Addr) (c1 : Nat) (l1 : List (S43)) (a2 : Int) (r1 : Int) (r2 : Int) (w : World) (hr0 : Kd.C k40 w A0 l0.length l0) (hc0 : l0.length ≤ c0) (hr1 : Kd.C k43 w A1 l1.length l1) (hc1 : l1.length ≤ c1) (h : prebendref08_Use.f k l0 l1 a2 = some (r1, r2)) :
    Calls Try.prog 15 #[.slice A0 l0.length c0, .slice A1 l1.length c1, .int .i64 a2] w fun e w' => e = .returned (.tuple #[.int .i64 r1, .int .i64 r2]) ∧ Below w.heap.size w w' := by
  have HR0 := Aside0.mk hr0
  have HC0 := Aside0.mk hc0
  clear hr0 hc0
  have HR1 := Aside0.mk hr1
  have HC1 := Aside0.mk hc1
  clear hr1 hc1
  have HB := Aside0.mk (Below.refl w.heap.size w)
  have H : (if a2 < 0 then (prebendref08_Use.j0 k l0 l1 a2 true) else (prebendref08_Use.j0 k l0 l1 a2 (decide (a2 ≥ (l0.length : Int))))) = some (r1, r2) := h
  clear h
  have HC4 := Aside0.mk H
  clear H
  go_enter Try.func15, Try.ntmps15
  go_upto_region 1 with (fail)
  go_cut [17] (fun v17 wc => ∃ (kq : Nat) (x17_3 : Bool), v17 = .bool x17_3 ∧ Aside0 (prebendref08_Use.j0 kq l0 l1 a2 x17_3 = some (r1, r2)) ∧ Aside0 (kq ≤ k) ∧ Aside0 (Below w.heap.size w wc))
  case first =>
    have H := HC4.out
    clear HC4
    by_cases c5 : a2 < 0
    · rw [if_pos c5] at H
      have c5b0 : decide (a2 < 0) = true := decide_eq_true c5
      clear c5
      (first | rw [c5b0] | (simp only [i64_w, i32_w]; rw [c5b0]) | skip)
      have H' := Aside0.mk H
      clear H
      go_wp2
      go_meet
      case rel => exact ⟨_, (true), (by first | rfl | (simp; done) | (simp [*]; done)), H', ⟨by first | omega | exact Nat.le_refl _⟩, ⟨by repeat (first | (with_reducible first | exact HB.out | apply below_alloc | apply pw_below_drewN | apply below_drew1) | exact HB.out)⟩⟩
    · rw [if_neg c5] at H
      have c5b0 : decide (a2 < 0) = false := decide_eq_false c5
      clear c5
      (first | rw [c5b0] | (simp only [i64_w, i32_w]; rw [c5b0]) | skip)
      have H' := Aside0.mk H
      clear H
      go_wp2
      go_meet
      case rel => exact ⟨_, (decide (a2 ≥ (l0.length : Int))), (by first | rfl | (simp; done) | (simp [*]; done)), H', ⟨by first | omega | exact Nat.le_refl _⟩, ⟨by repeat (first | (with_reducible first | exact HB.out | apply below_alloc | apply pw_below_drewN | apply below_drew1) | exact HB.out)⟩⟩
  case rest =>
    clear HC4
    try clear c1
    try clear p2
    try clear c5
    try clear c5b0
    obtain ⟨kq, x17_3, rfl, HA, HJ3, HB⟩ := hcut
    cases kq with
    | zero => exact absurd HA.out (by simp [prebendref08_Use.j0])
    | succ kj3 =>
      have H := HA.out
      clear HA
      simp only [prebendref08_Use.j0] at H
      by_cases c6 : x17_3 = true
      · subst c6
        have H1 : (some (0, 4)) = some (r1, r2) := by rw [if_pos rfl] at H; exact H
        clear H
        have H := H1
        clear H1
        simp only [Option.some.injEq, Prod.mk.injEq] at H
        obtain ⟨rfl, rfl⟩ := H
        go_wp2
        go_ret2
        exact ⟨by first | rfl | (simp [errW_none, errW_some] <;> rfl) | (simp [*, errW_none, errW_some] <;> rfl), by repeat (first | (with_reducible first | exact HB.out | apply below_alloc | apply pw_below_drewN | apply below_drew1) | exact HB.out)⟩
      · replace c6 := Bool.eq_false_iff.mpr c6
        subst c6
        have H1 : (prebendref08_Use.l0 kj3 l0 l1 a2 (([] : List Int)) 0) = some (r1, r2) := by rw [if_neg (show ¬ (false = true) by decide)] at H; exact H
        clear H
        have H := H1
        clear H1
        obtain ⟨y223, hy223⟩ : ∃ y_ : List Int, y_ = (([] : List Int)) := ⟨_, rfl⟩
        replace H : (prebendref08_Use.l0 kj3 l0 l1 a2 y223 0) = some (r1, r2) := by first | (rw [hy223]; with_reducible exact H) | (have H2_ := (Option.bind_some _ _).symm.trans H; rw [hy223]; with_reducible exact H2_) | (have H2_ := (Option.bind_some _ _).symm.trans H; with_reducible exact H2_) | with_reducible exact H | (rw [hy223]; exact H) | exact H
        have Ny223 := Aside0.mk hy223
        clear hy223
        have H' := Aside0.mk H
        clear H
        go_wp2_with (first | ((with_reducible refine gate_dst (N := 18) rfl ?_); (try (refine gate_guard (by rfl) ?_; dsimp only)); refine Kd.R_lit (Kd.int .i64) _ 3 ?hg (N := 18) ?hd (xs := ([] : List Int)) (inner := []) (ok := fun _ => True) (okp := fun _ => True) ?hr ?hp (fun _ hk => hk) trivial (Below.refl _ _) (Nat.le_refl _) (by simp) ?_; (case hd => rfl); (case hg => rfl); (case hr => first | (go_simp; done) | (go_simp; rfl)); (case hp => exact (Reps.none _ _)); intro v224 w7 ho8 hb hg_ hnew_; clear hg_ hnew_; (first | rw [← Ny223.out] at ho8 | (simp only [Int.reduceToNat] at ho8; rw [← Ny223.out] at ho8)); have n0_ := Aside0.mk (Kd.R_lower ho8 (below_size (by repeat (first | (with_reducible first | exact HB.out | apply below_alloc | apply pw_below_drewN | apply below_drew1) | exact HB.out)))); have n1_ := Aside0.mk (below_step (by repeat (first | (with_reducible first | exact HB.out | apply below_alloc | apply pw_below_drewN | apply below_drew1) | exact HB.out)) hb); clear HB; have HO225 := n0_; have HB := n1_; clear n0_ n1_; clear hb ho8))
        go_loopg [8, 9] kj3 (fun kq v8 v9 w' => ∃ (x8_2 : List Int) (x9_2 : Int), v9 = .int .i64 x9_2 ∧ Aside0 (prebendref08_Use.l0 kq l0 l1 a2 x8_2 x9_2 = some (r1, r2)) ∧ Aside0 (kq ≤ kj3) ∧ Aside0 (Kd.R (Kd.int .i64) 3 w' w.heap.size (fun _ => True) v8 x8_2) ∧ Aside0 (Below w.heap.size w w'))
        case atStart => exact ⟨(y223), (0), (by first | rfl | (simp; done) | (simp [*]; done)), H', ⟨Nat.le_refl _⟩, ⟨by (with_reducible repeat (first | apply Kd.R_alloc | apply Kd.R_drewN | apply Kd.R_drew)); exact HO225.out⟩, ⟨by repeat (first | (with_reducible first | exact HB.out | apply below_alloc | apply pw_below_drewN | apply below_drew1) | exact HB.out)⟩⟩
        case round =>
          clear H'
          try clear c1
          try clear p2
          try clear c5
          try clear c5b0
          try clear c6
          try clear p2
          obtain ⟨x8_2, x9_2, rfl, HA, HK2, HO_8, HB⟩ := hrel
          cases gk with
          | zero => exact absurd HA.out (by simp [prebendref08_Use.l0])
          | succ k2 =>
            have H := HA.out
            clear HA
            simp only [prebendref08_Use.l0] at H
            by_cases c9 : x9_2 < (l1.length : Int)
            · rw [if_pos c9] at H
              have c9b0 : decide (x9_2 < (l1.length : Int)) = true := decide_eq_true c9
              clear c9
              by_cases c10 : 0 ≤ x9_2
              · rw [if_pos c10] at H
                have c10b0 : decide (0 ≤ x9_2) = true := decide_eq_true c10
                clear c10
                replace H := Option.bind_eq_some_iff.mp H
                obtain ⟨t227, A110, H⟩ := H
                replace H : (if t227 = true then ((some (([(rd_T43 l1 x9_2).f4] : List Int) : List Int)).bind fun y229 => (if x8_2.length + y229.length < 17592186044416 then ((some (x8_2 ++ y229 : List Int)).bind fun y232 => ((some (([(rd_T43 l1 x9_2).f5] : List Int) : List Int)).bind fun y236 => (if y232.length + y236.length < 17592186044416 then (prebendref08_Use.l0 k2 l0 l1 a2 (y232 ++ y236) (wrap64 (x9_2 + 1))) else (none)))) else (none))) else (prebendref08_Use.l0 k2 l0 l1 a2 x8_2 (wrap64 (x9_2 + 1)))) = some (r1, r2) := H
                have A11 := Aside0.mk A110
                clear A110
                by_cases c12 : t227 = true
                · subst c12
                  have H1 : ((some (([(rd_T43 l1 x9_2).f4] : List Int) : List Int)).bind fun y229 => (if x8_2.length + y229.length < 17592186044416 then ((some (x8_2 ++ y229 : List Int)).bind fun y232 => ((some (([(rd_T43 l1 x9_2).f5] : List Int) : List Int)).bind fun y236 => (if y232.length + y236.length < 17592186044416 then (prebendref08_Use.l0 k2 l0 l1 a2 (y232 ++ y236) (wrap64 (x9_2 + 1))) else (none)))) else (none))) = some (r1, r2) := by rw [if_pos rfl] at H; exact H
                  clear H
                  have H := H1
                  clear H1
                  obtain ⟨y229, hy229⟩ : ∃ y_ : List Int, y_ = (([(rd_T43 l1 x9_2).f4] : List Int)) := ⟨_, rfl⟩
                  replace H : (if x8_2.length + y229.length < 17592186044416 then ((some (x8_2 ++ y229 : List Int)).bind fun y232 => ((some (([(rd_T43 l1 x9_2).f5] : List Int) : List Int)).bind fun y236 => (if y232.length + y236.length < 17592186044416 then (prebendref08_Use.l0 k2 l0 l1 a2 (y232 ++ y236) (wrap64 (x9_2 + 1))) else (none)))) else (none)) = some (r1, r2) := by first | (rw [hy229]; with_reducible exact H) | (have H2_ := (Option.bind_some _ _).symm.trans H; rw [hy229]; with_reducible exact H2_) | (have H2_ := (Option.bind_some _ _).symm.trans H; with_reducible exact H2_) | with_reducible exact H | (rw [hy229]; exact H) | exact H
                  have Ny229 := Aside0.mk hy229
                  clear hy229
                  by_cases c13 : x8_2.length + y229.length < 17592186044416
                  · rw [if_pos c13] at H
                    have LMc13 := Aside0.mk c13
                    clear c13
                    obtain ⟨y232, hy232⟩ : ∃ y_ : List Int, y_ = (x8_2 ++ y229) := ⟨_, rfl⟩
                    replace H : ((some (([(rd_T43 l1 x9_2).f5] : List Int) : List Int)).bind fun y236 => (if y232.length + y236.length < 17592186044416 then (prebendref08_Use.l0 k2 l0 l1 a2 (y232 ++ y236) (wrap64 (x9_2 + 1))) else (none))) = some (r1, r2) := by first | (rw [hy232]; with_reducible exact H) | (have H2_ := (Option.bind_some _ _).symm.trans H; rw [hy232]; with_reducible exact H2_) | (have H2_ := (Option.bind_some _ _).symm.trans H; with_reducible exact H2_) | with_reducible exact H | (rw [hy232]; exact H) | exact H
                    have Ny232 := Aside0.mk hy232
                    clear hy232
                    obtain ⟨y236, hy236⟩ : ∃ y_ : List Int, y_ = (([(rd_T43 l1 x9_2).f5] : List Int)) := ⟨_, rfl⟩
                    replace H : (if y232.length + y236.length < 17592186044416 then (prebendref08_Use.l0 k2 l0 l1 a2 (y232 ++ y236) (wrap64 (x9_2 + 1))) else (none)) = some (r1, r2) := by first | (rw [hy236]; with_reducible exact H) | (have H2_ := (Option.bind_some _ _).symm.trans H; rw [hy236]; with_reducible exact H2_) | (have H2_ := (Option.bind_some _ _).symm.trans H; with_reducible exact H2_) | with_reducible exact H | (rw [hy236]; exact H) | exact H
                    have Ny236 := Aside0.mk hy236
                    clear hy236
                    by_cases c14 : y232.length + y236.length < 17592186044416
                    · rw [if_pos c14] at H
                      have LMc14 := Aside0.mk c14
                      clear c14
                      obtain ⟨y239, hy239⟩ : ∃ y_ : List Int, y_ = (y232 ++ y236) := ⟨_, rfl⟩
                      replace H : (prebendref08_Use.l0 k2 l0 l1 a2 y239 (wrap64 (x9_2 + 1))) = some (r1, r2) := by first | (rw [hy239]; with_reducible exact H) | (have H2_ := (Option.bind_some _ _).symm.trans H; rw [hy239]; with_reducible exact H2_) | (have H2_ := (Option.bind_some _ _).symm.trans H; with_reducible exact H2_) | with_reducible exact H | (rw [hy239]; exact H) | exact H
                      have Ny239 := Aside0.mk hy239
                      clear hy239
                      have H' := Aside0.mk H
                      clear H
                      have p226 : 0 ≤ (x9_2 : Int) := of_decide_eq_true (by first | (with_reducible assumption) | assumption)
                      have q226 : x9_2 < (l1.length : Int) := of_decide_eq_true (by first | (with_reducible assumption) | assumption)
                      obtain ⟨ad226, e226, hx226_0, hx226_1, hx226_2, hx226_3, hx226_4, hx226_5⟩ := at_T43 HR1.out x9_2 p226 q226
                      cases e226
                      replace hx226_0 := (HB.out.cell (World.block_lt_of_cell? w _ hx226_0)).trans hx226_0
                      replace hx226_1 := (HB.out.cell (World.block_lt_of_cell? w _ hx226_1)).trans hx226_1
                      replace hx226_2 := (HB.out.cell (World.block_lt_of_cell? w _ hx226_2)).trans hx226_2
                      replace hx226_3 := (HB.out.cell (World.block_lt_of_cell? w _ hx226_3)).trans hx226_3
                      replace hx226_4 := (HB.out.cell (World.block_lt_of_cell? w _ hx226_4)).trans hx226_4
                      replace hx226_5 := (HB.out.cell (World.block_lt_of_cell? w _ hx226_5)).trans hx226_5
                      replace p226 := eq_true p226
                      replace q226 := eq_true q226
                      try go_wp2_with (first | ((with_reducible refine gate_callee (f := 23) rfl ?_); refine goesL_ (some 32) rfl rfl Try.func23 (by kernel_rfl) rfl #[.slice A0 l0.length c0, .int .i64 ((rd_T43 l1 x9_2).f0), .int .i64 a2] rfl (by (try simp only [List.map_toArray, List.map_cons, List.map_nil]); first | done | rfl | (simp only [List.length_drop, List.length_take]; rfl)) ?_; (with_reducible refine (prebendref08_Below.calls k2 _ _ l0 ((rd_T43 l1 x9_2).f0) a2 true _ ?side1 ?side2 A11.out).mono ?_); (case side1 => repeat (first | exact (Kd.C_below HR0.out HB.out) | (with_reducible refine Kd.C_alloc ?_ _) | (with_reducible refine Kd.C_drewN ?_ _) | (with_reducible refine Kd.C_drew ?_))); (case side2 => exact HC0.out); rintro e w15 ⟨rfl, hb⟩; refine ⟨_, rfl, ?_⟩; have n0_ := Aside0.mk (Kd.R_below (by (with_reducible repeat (first | apply Kd.R_alloc | apply Kd.R_drewN | apply Kd.R_drew)); exact HO_8.out) hb); have n1_ := Aside0.mk (below_step (by repeat (first | (with_reducible first | exact HB.out | apply below_alloc | apply pw_below_drewN | apply below_drew1) | exact HB.out)) hb); clear HO_8; clear HB; have HO_8 := n0_; have HB := n1_; clear n0_ n1_; (try clear hb); (try clear hb2); (try clear hk); (try clear hi); obtain ⟨Ao16, co16, eo16⟩ := Kd.R_slice HO_8.out; subst eo16))
                      have n0_ := Aside0.mk (Kd.R_drew HO_8.out)
                      have n1_ := Aside0.mk (below_drew1 HB.out)
                      clear HO_8
                      clear HB
                      have HO_8 := n0_
                      have HB := n1_
                      clear n0_ n1_
                      have p228 : 0 ≤ (x9_2 : Int) := of_decide_eq_true (by first | (with_reducible assumption) | assumption)
                      have q228 : x9_2 < (l1.length : Int) := of_decide_eq_true (by first | (with_reducible assumption) | assumption)
                      obtain ⟨ad228, e228, hx228_0, hx228_1, hx228_2, hx228_3, hx228_4, hx228_5⟩ := at_T43 HR1.out x9_2 p228 q228
                      have hw228_5 := hx228_5
                      have hw228_4 := hx228_4
                      have hw228_3 := hx228_3
                      have hw228_2 := hx228_2
                      have hw228_1 := hx228_1
                      have hw228_0 := hx228_0
                      obtain rfl : ad226 = ad228 := (by injection e228)
                      replace hx228_0 := (HB.out.cell (World.block_lt_of_cell? w _ hx228_0)).trans hx228_0
                      replace hx228_1 := (HB.out.cell (World.block_lt_of_cell? w _ hx228_1)).trans hx228_1
                      replace hx228_2 := (HB.out.cell (World.block_lt_of_cell? w _ hx228_2)).trans hx228_2
                      replace hx228_3 := (HB.out.cell (World.block_lt_of_cell? w _ hx228_3)).trans hx228_3
                      replace hx228_4 := (HB.out.cell (World.block_lt_of_cell? w _ hx228_4)).trans hx228_4
                      replace hx228_5 := (HB.out.cell (World.block_lt_of_cell? w _ hx228_5)).trans hx228_5
                      replace p228 := eq_true p228
                      replace q228 := eq_true q228
                      have p235 : 0 ≤ (x9_2 : Int) := of_decide_eq_true (by first | (with_reducible assumption) | assumption)
                      have q235 : x9_2 < (l1.length : Int) := of_decide_eq_true (by first | (with_reducible assumption) | assumption)
                      obtain ⟨ad235, e235, hx235_0, hx235_1, hx235_2, hx235_3, hx235_4, hx235_5⟩ := at_T43 HR1.out x9_2 p235 q235
                      have hw235_5 := hx235_5
                      have hw235_4 := hx235_4
                      have hw235_3 := hx235_3
                      have hw235_2 := hx235_2
                      have hw235_1 := hx235_1
                      have hw235_0 := hx235_0
                      obtain rfl : ad226 = ad235 := (by injection e235)
                      replace hx235_0 := (HB.out.cell (World.block_lt_of_cell? w _ hx235_0)).trans hx235_0
                      replace hx235_1 := (HB.out.cell (World.block_lt_of_cell? w _ hx235_1)).trans hx235_1
                      replace hx235_2 := (HB.out.cell (World.block_lt_of_cell? w _ hx235_2)).trans hx235_2
                      replace hx235_3 := (HB.out.cell (World.block_lt_of_cell? w _ hx235_3)).trans hx235_3
                      replace hx235_4 := (HB.out.cell (World.block_lt_of_cell? w _ hx235_4)).trans hx235_4
                      replace hx235_5 := (HB.out.cell (World.block_lt_of_cell? w _ hx235_5)).trans hx235_5
                      replace p235 := eq_true p235
                      replace q235 := eq_true q235
                      refine start_ (n := 16) (S := fun w' => w'.cell? (ad226.add ((x9_2).toNat * 6)) = some (.int .i64 ((rd_T43 l1 x9_2).f0)) ∧ w'.cell? ⟨(ad226.add ((x9_2).toNat * 6)).block, (ad226.add ((x9_2).toNat * 6)).off + 1, none⟩ = some (.int .i64 ((rd_T43 l1 x9_2).f1)) ∧ w'.cell? ⟨(ad226.add ((x9_2).toNat * 6)).block, (ad226.add ((x9_2).toNat * 6)).off + 2, none⟩ = some (.int .i64 ((rd_T43 l1 x9_2).f2)) ∧ w'.cell? ⟨(ad226.add ((x9_2).toNat * 6)).block, (ad226.add ((x9_2).toNat * 6)).off + 3, none⟩ = some (.int .i64 ((rd_T43 l1 x9_2).f3)) ∧ w'.cell? ⟨(ad226.add ((x9_2).toNat * 6)).block, (ad226.add ((x9_2).toNat * 6)).off + 4, none⟩ = some (.int .i64 ((rd_T43 l1 x9_2).f4)) ∧ w'.cell? ⟨(ad226.add ((x9_2).toNat * 6)).block, (ad226.add ((x9_2).toNat * 6)).off + 5, none⟩ = some (.int .i64 ((rd_T43 l1 x9_2).f5)) ∧ w'.cell? (ad226.add ((x9_2).toNat * 6)) = some (.int .i64 ((rd_T43 l1 x9_2).f0)) ∧ w'.cell? ⟨(ad226.add ((x9_2).toNat * 6)).block, (ad226.add ((x9_2).toNat * 6)).off + 1, none⟩ = some (.int .i64 ((rd_T43 l1 x9_2).f1)) ∧ w'.cell? ⟨(ad226.add ((x9_2).toNat * 6)).block, (ad226.add ((x9_2).toNat * 6)).off + 2, none⟩ = some (.int .i64 ((rd_T43 l1 x9_2).f2)) ∧ w'.cell? ⟨(ad226.add ((x9_2).toNat * 6)).block, (ad226.add ((x9_2).toNat * 6)).off + 3, none⟩ = some (.int .i64 ((rd_T43 l1 x9_2).f3)) ∧ w'.cell? ⟨(ad226.add ((x9_2).toNat * 6)).block, (ad226.add ((x9_2).toNat * 6)).off + 4, none⟩ = some (.int .i64 ((rd_T43 l1 x9_2).f4)) ∧ w'.cell? ⟨(ad226.add ((x9_2).toNat * 6)).block, (ad226.add ((x9_2).toNat * 6)).off + 5, none⟩ = some (.int .i64 ((rd_T43 l1 x9_2).f5))) (ds := []) #[false, false, false, false, false, false, false, false, false, false, false, false, false, false, false, false] (by kernel_rfl) rfl rfl ⟨((HB.out.cell (World.block_lt_of_cell? w _ hw228_0)).trans hw228_0), ((HB.out.cell (World.block_lt_of_cell? w _ hw228_1)).trans hw228_1), ((HB.out.cell (World.block_lt_of_cell? w _ hw228_2)).trans hw228_2), ((HB.out.cell (World.block_lt_of_cell? w _ hw228_3)).trans hw228_3), ((HB.out.cell (World.block_lt_of_cell? w _ hw228_4)).trans hw228_4), ((HB.out.cell (World.block_lt_of_cell? w _ hw228_5)).trans hw228_5), ((HB.out.cell (World.block_lt_of_cell? w _ hw235_0)).trans hw235_0), ((HB.out.cell (World.block_lt_of_cell? w _ hw235_1)).trans hw235_1), ((HB.out.cell (World.block_lt_of_cell? w _ hw235_2)).trans hw235_2), ((HB.out.cell (World.block_lt_of_cell? w _ hw235_3)).trans hw235_3), ((HB.out.cell (World.block_lt_of_cell? w _ hw235_4)).trans hw235_4), ((HB.out.cell (World.block_lt_of_cell? w _ hw235_5)).trans hw235_5)⟩ (fun hHeld => ?_); refine with_tabW prebendref08_Use.tab8 prebendref08_Use.bits8 (fun HT_ HW_ => ?_)
                      generalize w15.drew = w17 at HO_8 HB hx228_0 hx228_1 hx228_2 hx228_3 hx228_4 hx228_5 hx235_0 hx235_1 hx235_2 hx235_3 hx235_4 hx235_5 hHeld ⊢
                      refine pure_ (i := 0) (N := some 33) (v := ?_) (a' := ?_) #[true, false, false, false, false, false, false, false, false, false, false, false, false, false, false, false] rfl rfl (any_of HT_.out (by kernel_rfl)) (fun _ _ _ h => h) (Or.inl ⟨by rfl, ?_⟩) ?_ ?_
                      rotate_left
                      · intro w'
                        go_simp
                        with_reducible rfl
                      rotate_left
                      · simp only [Act.put, List.setIfInBounds_toArray, List.set_cons_zero, List.set_cons_succ, i64_w, i32_w]
                        rfl
                      refine pure_ (i := 1) (N := some 34) (v := ?_) (a' := ?_) #[true, true, false, false, false, false, false, false, false, false, false, false, false, false, false, false] rfl rfl (any_of HT_.out (by kernel_rfl)) (fun _ _ _ h => h) (Or.inl ⟨by rfl, ?_⟩) ?_ ?_
                      rotate_left
                      · intro w'
                        go_simp
                        with_reducible rfl
                      rotate_left
                      · simp only [Act.put, List.setIfInBounds_toArray, List.set_cons_zero, List.set_cons_succ, i64_w, i32_w]
                        rfl
                      refine pure_ (i := 2) (N := some 35) (v := ?_) (a' := ?_) #[true, true, true, false, false, false, false, false, false, false, false, false, false, false, false, false] rfl rfl (any_of HT_.out (by kernel_rfl)) (fun _ _ _ h => h) (Or.inl ⟨by rfl, ?_⟩) ?_ ?_
                      rotate_left
                      · intro w'
                        go_simp
                        with_reducible rfl
                      rotate_left
                      · simp only [Act.put, List.setIfInBounds_toArray, List.set_cons_zero, List.set_cons_succ, i64_w, i32_w]
                        rfl
                      refine pure_ (i := 3) (N := some 36) (v := ?_) (a' := ?_) #[true, true, true, true, false, false, false, false, false, false, false, false, false, false, false, false] rfl rfl (any_of HT_.out (by kernel_rfl)) (fun _ _ _ h => h) (Or.inl ⟨by rfl, ?_⟩) ?_ ?_
                      rotate_left
                      · intro w'
                        go_simp
                        with_reducible rfl
                      rotate_left
                      · simp only [Act.put, List.setIfInBounds_toArray, List.set_cons_zero, List.set_cons_succ, i64_w, i32_w]
                        rfl
                      refine pure_ (i := 4) (N := some 37) (v := ?_) (a' := ?_) #[true, true, true, true, true, false, false, false, false, false, false, false, false, false, false, false] rfl rfl (any_of HT_.out (by kernel_rfl)) (fun _ _ _ h => h) (Or.inl ⟨by rfl, ?_⟩) ?_ ?_
                      rotate_left
                      · intro w'
                        go_simp
                        with_reducible rfl
                      rotate_left
                      · simp only [Act.put, List.setIfInBounds_toArray, List.set_cons_zero, List.set_cons_succ, i64_w, i32_w]
                        rfl
                      refine pure_ (i := 8) (N := some 41) (v := ?_) (a' := ?_) #[true, true, true, true, true, false, false, false, true, false, false, false, false, false, false, false] rfl rfl (any_of HT_.out (by kernel_rfl)) (fun _ _ _ h => h) (Or.inl ⟨by rfl, ?_⟩) ?_ ?_
                      rotate_left
                      · intro w'
                        go_simp
                        with_reducible rfl
                      rotate_left
                      · simp only [Act.put, List.setIfInBounds_toArray, List.set_cons_zero, List.set_cons_succ, i64_w, i32_w]
                        rfl
                      refine pure_ (i := 9) (N := some 42) (v := ?_) (a' := ?_) #[true, true, true, true, true, false, false, false, true, true, false, false, false, false, false, false] rfl rfl (any_of HT_.out (by kernel_rfl)) (fun _ _ _ h => h) (Or.inl ⟨by rfl, ?_⟩) ?_ ?_
                      rotate_left
                      · intro w'
                        go_simp
                        with_reducible rfl
                      rotate_left
                      · simp only [Act.put, List.setIfInBounds_toArray, List.set_cons_zero, List.set_cons_succ, i64_w, i32_w]
                        rfl
                      refine pure_ (i := 10) (N := some 43) (v := ?_) (a' := ?_) #[true, true, true, true, true, false, false, false, true, true, true, false, false, false, false, false] rfl rfl (any_of HT_.out (by kernel_rfl)) (fun _ _ _ h => h) (Or.inl ⟨by rfl, ?_⟩) ?_ ?_
                      rotate_left
                      · intro w'
                        go_simp
                        with_reducible rfl
                      rotate_left
                      · simp only [Act.put, List.setIfInBounds_toArray, List.set_cons_zero, List.set_cons_succ, i64_w, i32_w]
                        rfl
                      refine pure_ (i := 11) (N := some 44) (v := ?_) (a' := ?_) #[true, true, true, true, true, false, false, false, true, true, true, true, false, false, false, false] rfl rfl (any_of HT_.out (by kernel_rfl)) (fun _ _ _ h => h) (Or.inl ⟨by rfl, ?_⟩) ?_ ?_
                      rotate_left
                      · intro w'
                        go_simp
                        with_reducible rfl
                      rotate_left
                      · simp only [Act.put, List.setIfInBounds_toArray, List.set_cons_zero, List.set_cons_succ, i64_w, i32_w]
                        rfl
                      refine take_ (i := 5) (N := some 38) (v := ?_) (a' := ?_) #[true, true, true, true, true, true, false, false, true, true, true, true, false, false, false, false] rfl rfl (take_ofW HT_.out HW_.out (by kernel_rfl)) (fun _ _ _ h => h) (Or.inl ⟨by rfl, ?_⟩) hHeld ?_ ?_
                      rotate_left
                      · rintro w' ⟨s0, s1, s2, s3, s4, s5, s6, s7, s8, s9, s10, s11⟩
                        go_simp
                        with_reducible rfl
                      rotate_left
                      · simp only [Act.put, List.setIfInBounds_toArray, List.set_cons_zero, List.set_cons_succ, i64_w, i32_w]
                        rfl
                      refine take_ (i := 12) (N := some 45) (v := ?_) (a' := ?_) #[true, true, true, true, true, true, false, false, true, true, true, true, true, false, false, false] rfl rfl (take_ofW HT_.out HW_.out (by kernel_rfl)) (fun _ _ _ h => h) (Or.inl ⟨by rfl, ?_⟩) hHeld ?_ ?_
                      rotate_left
                      · rintro w' ⟨s0, s1, s2, s3, s4, s5, s6, s7, s8, s9, s10, s11⟩
                        go_simp
                        with_reducible rfl
                      rotate_left
                      · simp only [Act.put, List.setIfInBounds_toArray, List.set_cons_zero, List.set_cons_succ, i64_w, i32_w]
                        rfl
                      refine join_ (σ := Value × Value × Value) 2 #[true, true, true, true, true, true, true, true, true, true, true, true, true, true, false, false] (fun s_ => [(39, s_.1), (40, s_.2.1), (46, s_.2.2)]) (fun s_ w' => (w'.cell? (ad226.add ((x9_2).toNat * 6)) = some (.int .i64 ((rd_T43 l1 x9_2).f0)) ∧ w'.cell? ⟨(ad226.add ((x9_2).toNat * 6)).block, (ad226.add ((x9_2).toNat * 6)).off + 1, none⟩ = some (.int .i64 ((rd_T43 l1 x9_2).f1)) ∧ w'.cell? ⟨(ad226.add ((x9_2).toNat * 6)).block, (ad226.add ((x9_2).toNat * 6)).off + 2, none⟩ = some (.int .i64 ((rd_T43 l1 x9_2).f2)) ∧ w'.cell? ⟨(ad226.add ((x9_2).toNat * 6)).block, (ad226.add ((x9_2).toNat * 6)).off + 3, none⟩ = some (.int .i64 ((rd_T43 l1 x9_2).f3)) ∧ w'.cell? ⟨(ad226.add ((x9_2).toNat * 6)).block, (ad226.add ((x9_2).toNat * 6)).off + 4, none⟩ = some (.int .i64 ((rd_T43 l1 x9_2).f4)) ∧ w'.cell? ⟨(ad226.add ((x9_2).toNat * 6)).block, (ad226.add ((x9_2).toNat * 6)).off + 5, none⟩ = some (.int .i64 ((rd_T43 l1 x9_2).f5)) ∧ w'.cell? (ad226.add ((x9_2).toNat * 6)) = some (.int .i64 ((rd_T43 l1 x9_2).f0)) ∧ w'.cell? ⟨(ad226.add ((x9_2).toNat * 6)).block, (ad226.add ((x9_2).toNat * 6)).off + 1, none⟩ = some (.int .i64 ((rd_T43 l1 x9_2).f1)) ∧ w'.cell? ⟨(ad226.add ((x9_2).toNat * 6)).block, (ad226.add ((x9_2).toNat * 6)).off + 2, none⟩ = some (.int .i64 ((rd_T43 l1 x9_2).f2)) ∧ w'.cell? ⟨(ad226.add ((x9_2).toNat * 6)).block, (ad226.add ((x9_2).toNat * 6)).off + 3, none⟩ = some (.int .i64 ((rd_T43 l1 x9_2).f3)) ∧ w'.cell? ⟨(ad226.add ((x9_2).toNat * 6)).block, (ad226.add ((x9_2).toNat * 6)).off + 4, none⟩ = some (.int .i64 ((rd_T43 l1 x9_2).f4)) ∧ w'.cell? ⟨(ad226.add ((x9_2).toNat * 6)).block, (ad226.add ((x9_2).toNat * 6)).off + 5, none⟩ = some (.int .i64 ((rd_T43 l1 x9_2).f5))) ∧ (Kd.R (Kd.int .i64) 3 w' w.heap.size (fun k_ => some k_ ≠ (s_.2.1 : Value).ownBlock ∧ some k_ ≠ (s_.2.2 : Value).ownBlock) s_.1 y229) ∧ (Kd.R (Kd.int .i64) 3 w' w.heap.size (fun k_ => some k_ ≠ (s_.1 : Value).ownBlock ∧ some k_ ≠ (s_.2.2 : Value).ownBlock) s_.2.1 y232) ∧ (Kd.R (Kd.int .i64) 3 w' w.heap.size (fun k_ => some k_ ≠ (s_.1 : Value).ownBlock ∧ some k_ ≠ (s_.2.1 : Value).ownBlock) s_.2.2 y236) ∧ (Below w.heap.size w w')) ?_ ?_
                      rotate_left
                      · intro hCont
                        refine two_ (i := 6) (j := 13) (Ni := some 39) (Nj := some 46) #[true, true, true, true, true, true, true, false, true, true, true, true, true, false, false, false] #[true, true, true, true, true, true, false, false, true, true, true, true, true, true, false, false] rfl rfl rfl rfl (two_of HT_.out (by kernel_rfl)) (by decide) (by decide) (fun K hK => ?_) (fun K hK => ?_)
                        · skip
                          refine Kd.R_lit_step (Kd.int .i64) _ 3 ?hg (N := 39) ?hd (xs := ([(rd_T43 l1 x9_2).f4] : List Int)) (inner := [.int .i64 ((rd_T43 l1 x9_2).f4)]) (ok := fun _ => True) (okp := fun _ => True) ?hr ?hp (fun _ hk => hk) trivial (Below.refl _ _) (Nat.le_refl _) (by simp) ?_; (case hd => rfl); (case hg => rfl); (case hr => first | (go_simp; done) | (go_simp; rfl)); (case hp => exact (Reps.one (show Kd.M (Kd.int .i64) _ _ _ ((rd_T43 l1 x9_2).f4) [.int .i64 ((rd_T43 l1 x9_2).f4)] from rfl) (Reps.none _ _)))
                          intro v230 w18 ho19 hb hg_ hnew_
                          clear hg_ hnew_
                          (first | rw [← Ny229.out] at ho19 | (simp only [Int.reduceToNat] at ho19; rw [← Ny229.out] at ho19))
                          have n0_ := Aside0.mk (Kd.R_elder' (by (with_reducible repeat (first | apply Kd.R_alloc | apply Kd.R_drewN | apply Kd.R_drew)); exact HO_8.out) (Kd.R_base ho19) hb)
                          have n1_ := Aside0.mk (Kd.R_lower (Kd.R_new' ho19 (Kd.R_lt (by (with_reducible repeat (first | apply Kd.R_alloc | apply Kd.R_drewN | apply Kd.R_drew)); exact HO_8.out))) (below_size (by repeat (first | (with_reducible first | exact HB.out | apply below_alloc | apply pw_below_drewN | apply below_drew1) | exact HB.out))))
                          have n2_ := Aside0.mk (below_step (by repeat (first | (with_reducible first | exact HB.out | apply below_alloc | apply pw_below_drewN | apply below_drew1) | exact HB.out)) hb)
                          clear HO_8
                          clear HB
                          have HO_8 := n0_
                          have HO231 := n1_
                          have HB := n2_
                          clear n0_ n1_ n2_
                          clear hb ho19
                          obtain ⟨Ao21, co21, eo21⟩ := Kd.R_slice HO231.out
                          (first | subst eo21 | (injection eo21 with f1_ f2_ f3_; have f4_ := f1_.symm; have f5_ := f3_.symm; clear f1_ f2_ f3_; subst f4_; subst f5_))
                          refine hK.out _ _ ⟨((HB.out.cell (World.block_lt_of_cell? w _ hw228_0)).trans hw228_0), ((HB.out.cell (World.block_lt_of_cell? w _ hw228_1)).trans hw228_1), ((HB.out.cell (World.block_lt_of_cell? w _ hw228_2)).trans hw228_2), ((HB.out.cell (World.block_lt_of_cell? w _ hw228_3)).trans hw228_3), ((HB.out.cell (World.block_lt_of_cell? w _ hw228_4)).trans hw228_4), ((HB.out.cell (World.block_lt_of_cell? w _ hw228_5)).trans hw228_5), ((HB.out.cell (World.block_lt_of_cell? w _ hw235_0)).trans hw235_0), ((HB.out.cell (World.block_lt_of_cell? w _ hw235_1)).trans hw235_1), ((HB.out.cell (World.block_lt_of_cell? w _ hw235_2)).trans hw235_2), ((HB.out.cell (World.block_lt_of_cell? w _ hw235_3)).trans hw235_3), ((HB.out.cell (World.block_lt_of_cell? w _ hw235_4)).trans hw235_4), ((HB.out.cell (World.block_lt_of_cell? w _ hw235_5)).trans hw235_5)⟩ (fun hHeld => ?_)
                          clear hK K
                          refine norm_ (a' := ?_) ?_ ?_
                          rotate_left
                          · show Act.put _ (some 39) _ = _
                            simp only [Act.put, List.setIfInBounds_toArray, List.set_cons_zero, List.set_cons_succ, i64_w, i32_w]
                            rfl
                          refine two_ (i := 7) (j := 13) (Ni := some 40) (Nj := some 46) #[true, true, true, true, true, true, true, true, true, true, true, true, true, false, false, false] #[true, true, true, true, true, true, true, false, true, true, true, true, true, true, false, false] rfl rfl rfl rfl (two_of HT_.out (by kernel_rfl)) (by decide) (by decide) (fun K hK => ?_) (fun K hK => ?_)
                          · skip
                            refine Kd.R_append_rows_step (Kd.int .i64) (w0 := w) w.heap.size (by rfl) (.tmp 33) (.tmp 39) 29 3 (.int .i64 0) 8 rfl Try.underlying29 info3 rfl (by decide) (by omega) (.slice Ao16 x8_2.length co16) x8_2 y229 _ _ _ (fun k_ => some k_ ≠ (.slice Ao21 y229.length co21 : Value).ownBlock) (fun _ => False) rfl rfl ?aO ?aR (fun _ _ h => h) (fun _ h => h.elim) ?aF ?aB ?aS ?aL ?_
                            (case aR => repeat (first | exact (Kd.R_reads' HO231.out).2.2 | (with_reducible refine Kd.C_alloc ?_ _) | (with_reducible refine Kd.C_drewN ?_ _) | (with_reducible refine Kd.C_drew ?_)))
                            (case aB => exact (by repeat (first | (with_reducible first | exact HB.out | apply below_alloc | apply pw_below_drewN | apply below_drew1) | exact HB.out)))
                            (case aF => exact (fun k_ hk => Kd.fresh' (Kd.R_lt (by (with_reducible repeat (first | apply Kd.R_alloc | apply Kd.R_drewN | apply Kd.R_drew)); exact HO231.out)) k_ hk))
                            (case aO => exact (by (with_reducible repeat (first | apply Kd.R_alloc | apply Kd.R_drewN | apply Kd.R_drew)); exact Kd.R_mono HO_8.out (fun _ hk => hk.2)))
                            (case aS => exact (below_size (by repeat (first | (with_reducible first | exact HB.out | apply below_alloc | apply pw_below_drewN | apply below_drew1) | exact HB.out))))
                            (case aL => have := LMc13.out; omega)
                            intro v233 w20 ho hb hg hat
                            rw [← Ny232.out] at ho
                            have n0_ := Aside0.mk (Kd.R_after (ok := (fun _ => True)) (by (with_reducible repeat (first | apply Kd.R_alloc | apply Kd.R_drewN | apply Kd.R_drew)); exact HO231.out) hg hat)
                            have n1_ := Aside0.mk (hb)
                            have n2_ := Aside0.mk (ho)
                            clear HO231
                            clear HB
                            clear HO_8
                            have HO231 := n0_
                            have HB := n1_
                            have HO234 := n2_
                            clear n0_ n1_ n2_
                            clear ho hb hg hat
                            refine hK.out _ _ ⟨((HB.out.cell (World.block_lt_of_cell? w _ hw228_0)).trans hw228_0), ((HB.out.cell (World.block_lt_of_cell? w _ hw228_1)).trans hw228_1), ((HB.out.cell (World.block_lt_of_cell? w _ hw228_2)).trans hw228_2), ((HB.out.cell (World.block_lt_of_cell? w _ hw228_3)).trans hw228_3), ((HB.out.cell (World.block_lt_of_cell? w _ hw228_4)).trans hw228_4), ((HB.out.cell (World.block_lt_of_cell? w _ hw228_5)).trans hw228_5), ((HB.out.cell (World.block_lt_of_cell? w _ hw235_0)).trans hw235_0), ((HB.out.cell (World.block_lt_of_cell? w _ hw235_1)).trans hw235_1), ((HB.out.cell (World.block_lt_of_cell? w _ hw235_2)).trans hw235_2), ((HB.out.cell (World.block_lt_of_cell? w _ hw235_3)).trans hw235_3), ((HB.out.cell (World.block_lt_of_cell? w _ hw235_4)).trans hw235_4), ((HB.out.cell (World.block_lt_of_cell? w _ hw235_5)).trans hw235_5)⟩ (fun hHeld => ?_)
                            clear hK K
                            refine norm_ (a' := ?_) ?_ ?_
                            rotate_left
                            · show Act.put _ (some 40) _ = _
                              simp only [Act.put, List.setIfInBounds_toArray, List.set_cons_zero, List.set_cons_succ, i64_w, i32_w]
                              rfl
                            refine one_ (i := 13) (N := some 46) #[true, true, true, true, true, true, true, true, true, true, true, true, true, true, false, false] rfl rfl (one_of HT_.out (by kernel_rfl)) (by decide) (fun K hK => ?_)
                            refine Kd.R_lit_step (Kd.int .i64) _ 3 ?hg (N := 46) ?hd (xs := ([(rd_T43 l1 x9_2).f5] : List Int)) (inner := [.int .i64 ((rd_T43 l1 x9_2).f5)]) (ok := fun _ => True) (okp := fun _ => True) ?hr ?hp (fun _ hk => hk) trivial (Below.refl _ _) (Nat.le_refl _) (by simp) ?_; (case hd => rfl); (case hg => rfl); (case hr => first | (go_simp; done) | (go_simp; rfl)); (case hp => exact (Reps.one (show Kd.M (Kd.int .i64) _ _ _ ((rd_T43 l1 x9_2).f5) [.int .i64 ((rd_T43 l1 x9_2).f5)] from rfl) (Reps.none _ _)))
                            intro v237 w22 ho23 hb hg_ hnew_
                            clear hg_ hnew_
                            (first | rw [← Ny236.out] at ho23 | (simp only [Int.reduceToNat] at ho23; rw [← Ny236.out] at ho23))
                            have n0_ := Aside0.mk (Kd.R_elder' (by (with_reducible repeat (first | apply Kd.R_alloc | apply Kd.R_drewN | apply Kd.R_drew)); exact HO231.out) (Kd.R_base ho23) hb)
                            have n1_ := Aside0.mk (Kd.R_elder' (by (with_reducible repeat (first | apply Kd.R_alloc | apply Kd.R_drewN | apply Kd.R_drew)); exact HO234.out) (Kd.R_base ho23) hb)
                            have n2_ := Aside0.mk (Kd.R_lower (Kd.R_new' (Kd.R_new' ho23 (Kd.R_lt (by (with_reducible repeat (first | apply Kd.R_alloc | apply Kd.R_drewN | apply Kd.R_drew)); exact HO231.out))) (Kd.R_lt (by (with_reducible repeat (first | apply Kd.R_alloc | apply Kd.R_drewN | apply Kd.R_drew)); exact HO234.out))) (below_size (by repeat (first | (with_reducible first | exact HB.out | apply below_alloc | apply pw_below_drewN | apply below_drew1) | exact HB.out))))
                            have n3_ := Aside0.mk (below_step (by repeat (first | (with_reducible first | exact HB.out | apply below_alloc | apply pw_below_drewN | apply below_drew1) | exact HB.out)) hb)
                            clear HO231
                            clear HO234
                            clear HB
                            have HO231 := n0_
                            have HO234 := n1_
                            have HO238 := n2_
                            have HB := n3_
                            clear n0_ n1_ n2_ n3_
                            clear hb ho23
                            refine hK.out _ _ ⟨((HB.out.cell (World.block_lt_of_cell? w _ hw228_0)).trans hw228_0), ((HB.out.cell (World.block_lt_of_cell? w _ hw228_1)).trans hw228_1), ((HB.out.cell (World.block_lt_of_cell? w _ hw228_2)).trans hw228_2), ((HB.out.cell (World.block_lt_of_cell? w _ hw228_3)).trans hw228_3), ((HB.out.cell (World.block_lt_of_cell? w _ hw228_4)).trans hw228_4), ((HB.out.cell (World.block_lt_of_cell? w _ hw228_5)).trans hw228_5), ((HB.out.cell (World.block_lt_of_cell? w _ hw235_0)).trans hw235_0), ((HB.out.cell (World.block_lt_of_cell? w _ hw235_1)).trans hw235_1), ((HB.out.cell (World.block_lt_of_cell? w _ hw235_2)).trans hw235_2), ((HB.out.cell (World.block_lt_of_cell? w _ hw235_3)).trans hw235_3), ((HB.out.cell (World.block_lt_of_cell? w _ hw235_4)).trans hw235_4), ((HB.out.cell (World.block_lt_of_cell? w _ hw235_5)).trans hw235_5)⟩ (fun hHeld => ?_)
                            clear hK K
                            refine norm_ (a' := ?_) ?_ ?_
                            rotate_left
                            · show Act.put _ (some 46) _ = _
                              simp only [Act.put, List.setIfInBounds_toArray, List.set_cons_zero, List.set_cons_succ, i64_w, i32_w]
                              rfl
                            exact norm_ (by simp only [putAll, Act.put, List.setIfInBounds_toArray, List.set_cons_zero, List.set_cons_succ]) (hCont (.slice Ao21 y229.length co21, v233, v237) _ ⟨hHeld, (by (with_reducible repeat (first | apply Kd.R_alloc | apply Kd.R_drewN | apply Kd.R_drew)); exact Kd.R_mono HO231.out (fun _ hk => ⟨hk.1.2, hk.2⟩)), (by (with_reducible repeat (first | apply Kd.R_alloc | apply Kd.R_drewN | apply Kd.R_drew)); exact HO234.out), (by (with_reducible repeat (first | apply Kd.R_alloc | apply Kd.R_drewN | apply Kd.R_drew)); exact Kd.R_mono HO238.out (fun _ hk => ⟨hk.1.2, hk.2⟩)), (by repeat (first | (with_reducible first | exact HB.out | apply below_alloc | apply pw_below_drewN | apply below_drew1) | exact HB.out))⟩)
                          · skip
                            refine Kd.R_lit_step (Kd.int .i64) _ 3 ?hg (N := 46) ?hd (xs := ([(rd_T43 l1 x9_2).f5] : List Int)) (inner := [.int .i64 ((rd_T43 l1 x9_2).f5)]) (ok := fun _ => True) (okp := fun _ => True) ?hr ?hp (fun _ hk => hk) trivial (Below.refl _ _) (Nat.le_refl _) (by simp) ?_; (case hd => rfl); (case hg => rfl); (case hr => first | (go_simp; done) | (go_simp; rfl)); (case hp => exact (Reps.one (show Kd.M (Kd.int .i64) _ _ _ ((rd_T43 l1 x9_2).f5) [.int .i64 ((rd_T43 l1 x9_2).f5)] from rfl) (Reps.none _ _)))
                            intro v237 w20 ho21 hb hg_ hnew_
                            clear hg_ hnew_
                            (first | rw [← Ny236.out] at ho21 | (simp only [Int.reduceToNat] at ho21; rw [← Ny236.out] at ho21))
                            have n0_ := Aside0.mk (Kd.R_elder' (by (with_reducible repeat (first | apply Kd.R_alloc | apply Kd.R_drewN | apply Kd.R_drew)); exact HO_8.out) (Kd.R_base ho21) hb)
                            have n1_ := Aside0.mk (Kd.R_elder' (by (with_reducible repeat (first | apply Kd.R_alloc | apply Kd.R_drewN | apply Kd.R_drew)); exact HO231.out) (Kd.R_base ho21) hb)
                            have n2_ := Aside0.mk (Kd.R_lower (Kd.R_new' (Kd.R_new' ho21 (Kd.R_lt (by (with_reducible repeat (first | apply Kd.R_alloc | apply Kd.R_drewN | apply Kd.R_drew)); exact HO_8.out))) (Kd.R_lt (by (with_reducible repeat (first | apply Kd.R_alloc | apply Kd.R_drewN | apply Kd.R_drew)); exact HO231.out))) (below_size (by repeat (first | (with_reducible first | exact HB.out | apply below_alloc | apply pw_below_drewN | apply below_drew1) | exact HB.out))))
                            have n3_ := Aside0.mk (below_step (by repeat (first | (with_reducible first | exact HB.out | apply below_alloc | apply pw_below_drewN | apply below_drew1) | exact HB.out)) hb)
                            clear HO_8
                            clear HO231
                            clear HB
                            have HO_8 := n0_
                            have HO231 := n1_
                            have HO238 := n2_
                            have HB := n3_
                            clear n0_ n1_ n2_ n3_
                            clear hb ho21
                            obtain ⟨Ao23, co23, eo23⟩ := Kd.R_slice HO231.out
                            (first | subst eo23 | (injection eo23 with f1_ f2_ f3_; have f4_ := f1_.symm; have f5_ := f3_.symm; clear f1_ f2_ f3_; subst f4_; subst f5_))
                            refine hK.out _ _ ⟨((HB.out.cell (World.block_lt_of_cell? w _ hw228_0)).trans hw228_0), ((HB.out.cell (World.block_lt_of_cell? w _ hw228_1)).trans hw228_1), ((HB.out.cell (World.block_lt_of_cell? w _ hw228_2)).trans hw228_2), ((HB.out.cell (World.block_lt_of_cell? w _ hw228_3)).trans hw228_3), ((HB.out.cell (World.block_lt_of_cell? w _ hw228_4)).trans hw228_4), ((HB.out.cell (World.block_lt_of_cell? w _ hw228_5)).trans hw228_5), ((HB.out.cell (World.block_lt_of_cell? w _ hw235_0)).trans hw235_0), ((HB.out.cell (World.block_lt_of_cell? w _ hw235_1)).trans hw235_1), ((HB.out.cell (World.block_lt_of_cell? w _ hw235_2)).trans hw235_2), ((HB.out.cell (World.block_lt_of_cell? w _ hw235_3)).trans hw235_3), ((HB.out.cell (World.block_lt_of_cell? w _ hw235_4)).trans hw235_4), ((HB.out.cell (World.block_lt_of_cell? w _ hw235_5)).trans hw235_5)⟩ (fun hHeld => ?_)
                            clear hK K
                            refine norm_ (a' := ?_) ?_ ?_
                            rotate_left
                            · show Act.put _ (some 46) _ = _
                              simp only [Act.put, List.setIfInBounds_toArray, List.set_cons_zero, List.set_cons_succ, i64_w, i32_w]
                              rfl
                            refine one_ (i := 7) (N := some 40) #[true, true, true, true, true, true, true, true, true, true, true, true, true, true, false, false] rfl rfl (one_of HT_.out (by kernel_rfl)) (by decide) (fun K hK => ?_)
                            refine Kd.R_append_rows_step (Kd.int .i64) (w0 := w) w.heap.size (by rfl) (.tmp 33) (.tmp 39) 29 3 (.int .i64 0) 8 rfl Try.underlying29 info3 rfl (by decide) (by omega) (.slice Ao16 x8_2.length co16) x8_2 y229 _ _ _ (fun k_ => some k_ ≠ (.slice Ao23 y229.length co23 : Value).ownBlock ∧ some k_ ≠ (v237 : Value).ownBlock) (fun _ => False) rfl rfl ?aO ?aR (fun _ _ h => h) (fun _ h => h.elim) ?aF ?aB ?aS ?aL ?_
                            (case aR => repeat (first | exact (Kd.R_reads' HO231.out).2.2 | (with_reducible refine Kd.C_alloc ?_ _) | (with_reducible refine Kd.C_drewN ?_ _) | (with_reducible refine Kd.C_drew ?_)))
                            (case aB => exact (by repeat (first | (with_reducible first | exact HB.out | apply below_alloc | apply pw_below_drewN | apply below_drew1) | exact HB.out)))
                            (case aF => exact (fun k_ hk => ⟨Kd.fresh' (Kd.R_lt (by (with_reducible repeat (first | apply Kd.R_alloc | apply Kd.R_drewN | apply Kd.R_drew)); exact HO231.out)) k_ hk, Kd.fresh' (Kd.R_lt (by (with_reducible repeat (first | apply Kd.R_alloc | apply Kd.R_drewN | apply Kd.R_drew)); exact HO238.out)) k_ hk⟩))
                            (case aO => exact (by (with_reducible repeat (first | apply Kd.R_alloc | apply Kd.R_drewN | apply Kd.R_drew)); exact Kd.R_mono HO_8.out (fun _ hk => ⟨hk.1.2, hk.2⟩)))
                            (case aS => exact (below_size (by repeat (first | (with_reducible first | exact HB.out | apply below_alloc | apply pw_below_drewN | apply below_drew1) | exact HB.out))))
                            (case aL => have := LMc13.out; omega)
                            intro v233 w22 ho hb hg hat
                            rw [← Ny232.out] at ho
                            have n0_ := Aside0.mk (Kd.R_after (ok := (fun k_ => some k_ ≠ (v237 : Value).ownBlock)) (by (with_reducible repeat (first | apply Kd.R_alloc | apply Kd.R_drewN | apply Kd.R_drew)); exact Kd.R_mono HO231.out (fun _ hk => ⟨hk.2, hk.1.2⟩)) hg hat)
                            have n1_ := Aside0.mk (Kd.R_after (ok := (fun k_ => some k_ ≠ (.slice Ao23 y229.length co23 : Value).ownBlock)) (by (with_reducible repeat (first | apply Kd.R_alloc | apply Kd.R_drewN | apply Kd.R_drew)); exact Kd.R_mono HO238.out (fun _ hk => ⟨hk.2, hk.1.2⟩)) hg hat)
                            have n2_ := Aside0.mk (hb)
                            have n3_ := Aside0.mk (ho)
                            clear HO231
                            clear HO238
                            clear HB
                            clear HO_8
                            have HO231 := n0_
                            have HO238 := n1_
                            have HB := n2_
                            have HO234 := n3_
                            clear n0_ n1_ n2_ n3_
                            clear ho hb hg hat
                            refine hK.out _ _ ⟨((HB.out.cell (World.block_lt_of_cell? w _ hw228_0)).trans hw228_0), ((HB.out.cell (World.block_lt_of_cell? w _ hw228_1)).trans hw228_1), ((HB.out.cell (World.block_lt_of_cell? w _ hw228_2)).trans hw228_2), ((HB.out.cell (World.block_lt_of_cell? w _ hw228_3)).trans hw228_3), ((HB.out.cell (World.block_lt_of_cell? w _ hw228_4)).trans hw228_4), ((HB.out.cell (World.block_lt_of_cell? w _ hw228_5)).trans hw228_5), ((HB.out.cell (World.block_lt_of_cell? w _ hw235_0)).trans hw235_0), ((HB.out.cell (World.block_lt_of_cell? w _ hw235_1)).trans hw235_1), ((HB.out.cell (World.block_lt_of_cell? w _ hw235_2)).trans hw235_2), ((HB.out.cell (World.block_lt_of_cell? w _ hw235_3)).trans hw235_3), ((HB.out.cell (World.block_lt_of_cell? w _ hw235_4)).trans hw235_4), ((HB.out.cell (World.block_lt_of_cell? w _ hw235_5)).trans hw235_5)⟩ (fun hHeld => ?_)
                            clear hK K
                            refine norm_ (a' := ?_) ?_ ?_
                            rotate_left
                            · show Act.put _ (some 40) _ = _
                              simp only [Act.put, List.setIfInBounds_toArray, List.set_cons_zero, List.set_cons_succ, i64_w, i32_w]
                              rfl
                            exact norm_ (by simp only [putAll, Act.put, List.setIfInBounds_toArray, List.set_cons_zero, List.set_cons_succ]) (hCont (.slice Ao23 y229.length co23, v233, v237) _ ⟨hHeld, (by (with_reducible repeat (first | apply Kd.R_alloc | apply Kd.R_drewN | apply Kd.R_drew)); exact Kd.R_mono HO231.out (fun _ hk => ⟨hk.2, hk.1⟩)), (by (with_reducible repeat (first | apply Kd.R_alloc | apply Kd.R_drewN | apply Kd.R_drew)); exact HO234.out), (by (with_reducible repeat (first | apply Kd.R_alloc | apply Kd.R_drewN | apply Kd.R_drew)); exact HO238.out), (by repeat (first | (with_reducible first | exact HB.out | apply below_alloc | apply pw_below_drewN | apply below_drew1) | exact HB.out))⟩)
                        · skip
                          refine Kd.R_lit_step (Kd.int .i64) _ 3 ?hg (N := 46) ?hd (xs := ([(rd_T43 l1 x9_2).f5] : List Int)) (inner := [.int .i64 ((rd_T43 l1 x9_2).f5)]) (ok := fun _ => True) (okp := fun _ => True) ?hr ?hp (fun _ hk => hk) trivial (Below.refl _ _) (Nat.le_refl _) (by simp) ?_; (case hd => rfl); (case hg => rfl); (case hr => first | (go_simp; done) | (go_simp; rfl)); (case hp => exact (Reps.one (show Kd.M (Kd.int .i64) _ _ _ ((rd_T43 l1 x9_2).f5) [.int .i64 ((rd_T43 l1 x9_2).f5)] from rfl) (Reps.none _ _)))
                          intro v237 w18 ho19 hb hg_ hnew_
                          clear hg_ hnew_
                          (first | rw [← Ny236.out] at ho19 | (simp only [Int.reduceToNat] at ho19; rw [← Ny236.out] at ho19))
                          have n0_ := Aside0.mk (Kd.R_elder' (by (with_reducible repeat (first | apply Kd.R_alloc | apply Kd.R_drewN | apply Kd.R_drew)); exact HO_8.out) (Kd.R_base ho19) hb)
                          have n1_ := Aside0.mk (Kd.R_lower (Kd.R_new' ho19 (Kd.R_lt (by (with_reducible repeat (first | apply Kd.R_alloc | apply Kd.R_drewN | apply Kd.R_drew)); exact HO_8.out))) (below_size (by repeat (first | (with_reducible first | exact HB.out | apply below_alloc | apply pw_below_drewN | apply below_drew1) | exact HB.out))))
                          have n2_ := Aside0.mk (below_step (by repeat (first | (with_reducible first | exact HB.out | apply below_alloc | apply pw_below_drewN | apply below_drew1) | exact HB.out)) hb)
                          clear HO_8
                          clear HB
                          have HO_8 := n0_
                          have HO238 := n1_
                          have HB := n2_
                          clear n0_ n1_ n2_
                          clear hb ho19
                          refine hK.out _ _ ⟨((HB.out.cell (World.block_lt_of_cell? w _ hw228_0)).trans hw228_0), ((HB.out.cell (World.block_lt_of_cell? w _ hw228_1)).trans hw228_1), ((HB.out.cell (World.block_lt_of_cell? w _ hw228_2)).trans hw228_2), ((HB.out.cell (World.block_lt_of_cell? w _ hw228_3)).trans hw228_3), ((HB.out.cell (World.block_lt_of_cell? w _ hw228_4)).trans hw228_4), ((HB.out.cell (World.block_lt_of_cell? w _ hw228_5)).trans hw228_5), ((HB.out.cell (World.block_lt_of_cell? w _ hw235_0)).trans hw235_0), ((HB.out.cell (World.block_lt_of_cell? w _ hw235_1)).trans hw235_1), ((HB.out.cell (World.block_lt_of_cell? w _ hw235_2)).trans hw235_2), ((HB.out.cell (World.block_lt_of_cell? w _ hw235_3)).trans hw235_3), ((HB.out.cell (World.block_lt_of_cell? w _ hw235_4)).trans hw235_4), ((HB.out.cell (World.block_lt_of_cell? w _ hw235_5)).trans hw235_5)⟩ (fun hHeld => ?_)
                          clear hK K
                          refine norm_ (a' := ?_) ?_ ?_
                          rotate_left
                          · show Act.put _ (some 46) _ = _
                            simp only [Act.put, List.setIfInBounds_toArray, List.set_cons_zero, List.set_cons_succ, i64_w, i32_w]
                            rfl
                          refine one_ (i := 6) (N := some 39) #[true, true, true, true, true, true, true, false, true, true, true, true, true, true, false, false] rfl rfl (one_of HT_.out (by kernel_rfl)) (by decide) (fun K hK => ?_)
                          refine Kd.R_lit_step (Kd.int .i64) _ 3 ?hg (N := 39) ?hd (xs := ([(rd_T43 l1 x9_2).f4] : List Int)) (inner := [.int .i64 ((rd_T43 l1 x9_2).f4)]) (ok := fun _ => True) (okp := fun _ => True) ?hr ?hp (fun _ hk => hk) trivial (Below.refl _ _) (Nat.le_refl _) (by simp) ?_; (case hd => rfl); (case hg => rfl); (case hr => first | (go_simp; done) | (go_simp; rfl)); (case hp => exact (Reps.one (show Kd.M (Kd.int .i64) _ _ _ ((rd_T43 l1 x9_2).f4) [.int .i64 ((rd_T43 l1 x9_2).f4)] from rfl) (Reps.none _ _)))
                          intro v230 w20 ho21 hb hg_ hnew_
                          clear hg_ hnew_
                          (first | rw [← Ny229.out] at ho21 | (simp only [Int.reduceToNat] at ho21; rw [← Ny229.out] at ho21))
                          have n0_ := Aside0.mk (Kd.R_elder' (by (with_reducible repeat (first | apply Kd.R_alloc | apply Kd.R_drewN | apply Kd.R_drew)); exact HO_8.out) (Kd.R_base ho21) hb)
                          have n1_ := Aside0.mk (Kd.R_elder' (by (with_reducible repeat (first | apply Kd.R_alloc | apply Kd.R_drewN | apply Kd.R_drew)); exact HO238.out) (Kd.R_base ho21) hb)
                          have n2_ := Aside0.mk (Kd.R_lower (Kd.R_new' (Kd.R_new' ho21 (Kd.R_lt (by (with_reducible repeat (first | apply Kd.R_alloc | apply Kd.R_drewN | apply Kd.R_drew)); exact HO_8.out))) (Kd.R_lt (by (with_reducible repeat (first | apply Kd.R_alloc | apply Kd.R_drewN | apply Kd.R_drew)); exact HO238.out))) (below_size (by repeat (first | (with_reducible first | exact HB.out | apply below_alloc | apply pw_below_drewN | apply below_drew1) | exact HB.out))))
                          have n3_ := Aside0.mk (below_step (by repeat (first | (with_reducible first | exact HB.out | apply below_alloc | apply pw_below_drewN | apply below_drew1) | exact HB.out)) hb)
                          clear HO_8
                          clear HO238
                          clear HB
                          have HO_8 := n0_
                          have HO238 := n1_
                          have HO231 := n2_
                          have HB := n3_
                          clear n0_ n1_ n2_ n3_
                          clear hb ho21
                          obtain ⟨Ao23, co23, eo23⟩ := Kd.R_slice HO231.out
                          (first | subst eo23 | (injection eo23 with f1_ f2_ f3_; have f4_ := f1_.symm; have f5_ := f3_.symm; clear f1_ f2_ f3_; subst f4_; subst f5_))
                          refine hK.out _ _ ⟨((HB.out.cell (World.block_lt_of_cell? w _ hw228_0)).trans hw228_0), ((HB.out.cell (World.block_lt_of_cell? w _ hw228_1)).trans hw228_1), ((HB.out.cell (World.block_lt_of_cell? w _ hw228_2)).trans hw228_2), ((HB.out.cell (World.block_lt_of_cell? w _ hw228_3)).trans hw228_3), ((HB.out.cell (World.block_lt_of_cell? w _ hw228_4)).trans hw228_4), ((HB.out.cell (World.block_lt_of_cell? w _ hw228_5)).trans hw228_5), ((HB.out.cell (World.block_lt_of_cell? w _ hw235_0)).trans hw235_0), ((HB.out.cell (World.block_lt_of_cell? w _ hw235_1)).trans hw235_1), ((HB.out.cell (World.block_lt_of_cell? w _ hw235_2)).trans hw235_2), ((HB.out.cell (World.block_lt_of_cell? w _ hw235_3)).trans hw235_3), ((HB.out.cell (World.block_lt_of_cell? w _ hw235_4)).trans hw235_4), ((HB.out.cell (World.block_lt_of_cell? w _ hw235_5)).trans hw235_5)⟩ (fun hHeld => ?_)
                          clear hK K
                          refine norm_ (a' := ?_) ?_ ?_
                          rotate_left
                          · show Act.put _ (some 39) _ = _
                            simp only [Act.put, List.setIfInBounds_toArray, List.set_cons_zero, List.set_cons_succ, i64_w, i32_w]
                            rfl
                          refine one_ (i := 7) (N := some 40) #[true, true, true, true, true, true, true, true, true, true, true, true, true, true, false, false] rfl rfl (one_of HT_.out (by kernel_rfl)) (by decide) (fun K hK => ?_)
                          refine Kd.R_append_rows_step (Kd.int .i64) (w0 := w) w.heap.size (by rfl) (.tmp 33) (.tmp 39) 29 3 (.int .i64 0) 8 rfl Try.underlying29 info3 rfl (by decide) (by omega) (.slice Ao16 x8_2.length co16) x8_2 y229 _ _ _ (fun k_ => some k_ ≠ (v237 : Value).ownBlock ∧ some k_ ≠ (.slice Ao23 y229.length co23 : Value).ownBlock) (fun _ => False) rfl rfl ?aO ?aR (fun _ _ h => h) (fun _ h => h.elim) ?aF ?aB ?aS ?aL ?_
                          (case aR => repeat (first | exact (Kd.R_reads' HO231.out).2.2 | (with_reducible refine Kd.C_alloc ?_ _) | (with_reducible refine Kd.C_drewN ?_ _) | (with_reducible refine Kd.C_drew ?_)))
                          (case aB => exact (by repeat (first | (with_reducible first | exact HB.out | apply below_alloc | apply pw_below_drewN | apply below_drew1) | exact HB.out)))
                          (case aF => exact (fun k_ hk => ⟨Kd.fresh' (Kd.R_lt (by (with_reducible repeat (first | apply Kd.R_alloc | apply Kd.R_drewN | apply Kd.R_drew)); exact HO238.out)) k_ hk, Kd.fresh' (Kd.R_lt (by (with_reducible repeat (first | apply Kd.R_alloc | apply Kd.R_drewN | apply Kd.R_drew)); exact HO231.out)) k_ hk⟩))
                          (case aO => exact (by (with_reducible repeat (first | apply Kd.R_alloc | apply Kd.R_drewN | apply Kd.R_drew)); exact Kd.R_mono HO_8.out (fun _ hk => ⟨hk.1.2, hk.2⟩)))
                          (case aS => exact (below_size (by repeat (first | (with_reducible first | exact HB.out | apply below_alloc | apply pw_below_drewN | apply below_drew1) | exact HB.out))))
                          (case aL => have := LMc13.out; omega)
                          intro v233 w22 ho hb hg hat
                          rw [← Ny232.out] at ho
                          have n0_ := Aside0.mk (Kd.R_after (ok := (fun k_ => some k_ ≠ (.slice Ao23 y229.length co23 : Value).ownBlock)) (by (with_reducible repeat (first | apply Kd.R_alloc | apply Kd.R_drewN | apply Kd.R_drew)); exact Kd.R_mono HO238.out (fun _ hk => ⟨hk.2, hk.1.2⟩)) hg hat)
                          have n1_ := Aside0.mk (Kd.R_after (ok := (fun k_ => some k_ ≠ (v237 : Value).ownBlock)) (by (with_reducible repeat (first | apply Kd.R_alloc | apply Kd.R_drewN | apply Kd.R_drew)); exact Kd.R_mono HO231.out (fun _ hk => ⟨hk.2, hk.1.2⟩)) hg hat)
                          have n2_ := Aside0.mk (hb)
                          have n3_ := Aside0.mk (ho)
                          clear HO238
                          clear HO231
                          clear HB
                          clear HO_8
                          have HO238 := n0_
                          have HO231 := n1_
                          have HB := n2_
                          have HO234 := n3_
                          clear n0_ n1_ n2_ n3_
                          clear ho hb hg hat
                          refine hK.out _ _ ⟨((HB.out.cell (World.block_lt_of_cell? w _ hw228_0)).trans hw228_0), ((HB.out.cell (World.block_lt_of_cell? w _ hw228_1)).trans hw228_1), ((HB.out.cell (World.block_lt_of_cell? w _ hw228_2)).trans hw228_2), ((HB.out.cell (World.block_lt_of_cell? w _ hw228_3)).trans hw228_3), ((HB.out.cell (World.block_lt_of_cell? w _ hw228_4)).trans hw228_4), ((HB.out.cell (World.block_lt_of_cell? w _ hw228_5)).trans hw228_5), ((HB.out.cell (World.block_lt_of_cell? w _ hw235_0)).trans hw235_0), ((HB.out.cell (World.block_lt_of_cell? w _ hw235_1)).trans hw235_1), ((HB.out.cell (World.block_lt_of_cell? w _ hw235_2)).trans hw235_2), ((HB.out.cell (World.block_lt_of_cell? w _ hw235_3)).trans hw235_3), ((HB.out.cell (World.block_lt_of_cell? w _ hw235_4)).trans hw235_4), ((HB.out.cell (World.block_lt_of_cell? w _ hw235_5)).trans hw235_5)⟩ (fun hHeld => ?_)
                          clear hK K
                          refine norm_ (a' := ?_) ?_ ?_
                          rotate_left
                          · show Act.put _ (some 40) _ = _
                            simp only [Act.put, List.setIfInBounds_toArray, List.set_cons_zero, List.set_cons_succ, i64_w, i32_w]
                            rfl
                          exact norm_ (by simp only [putAll, Act.put, List.setIfInBounds_toArray, List.set_cons_zero, List.set_cons_succ]) (hCont (.slice Ao23 y229.length co23, v233, v237) _ ⟨hHeld, (by (with_reducible repeat (first | apply Kd.R_alloc | apply Kd.R_drewN | apply Kd.R_drew)); exact Kd.R_mono HO231.out (fun _ hk => ⟨hk.2, hk.1⟩)), (by (with_reducible repeat (first | apply Kd.R_alloc | apply Kd.R_drewN | apply Kd.R_drew)); exact Kd.R_mono HO234.out (fun _ hk => ⟨hk.2, hk.1⟩)), (by (with_reducible repeat (first | apply Kd.R_alloc | apply Kd.R_drewN | apply Kd.R_drew)); exact HO238.out), (by repeat (first | (with_reducible first | exact HB.out | apply below_alloc | apply pw_below_drewN | apply below_drew1) | exact HB.out))⟩)
                      rintro ⟨v230, v233, v237⟩ w24 ⟨hS_, h0_, h1_, h2_, h3_⟩
                      have n0_ : Aside0 (Kd.R (Kd.int .i64) 3 w24 w.heap.size (fun k_ => some k_ ≠ (v233 : Value).ownBlock ∧ some k_ ≠ (v237 : Value).ownBlock) v230 y229) := ⟨h0_⟩
                      have n1_ : Aside0 (Kd.R (Kd.int .i64) 3 w24 w.heap.size (fun k_ => some k_ ≠ (v230 : Value).ownBlock ∧ some k_ ≠ (v237 : Value).ownBlock) v233 y232) := ⟨h1_⟩
                      have n2_ : Aside0 (Kd.R (Kd.int .i64) 3 w24 w.heap.size (fun k_ => some k_ ≠ (v230 : Value).ownBlock ∧ some k_ ≠ (v233 : Value).ownBlock) v237 y236) := ⟨h2_⟩
                      have n3_ : Aside0 (Below w.heap.size w w24) := ⟨h3_⟩
                      clear HO_8
                      clear HB
                      clear h0_ h1_ h2_ h3_
                      have HO231 := n0_
                      have HO234 := n1_
                      have HO238 := n2_
                      have HB := n3_
                      clear n0_ n1_ n2_ n3_
                      have hHeld : w24.cell? (ad226.add ((x9_2).toNat * 6)) = some (.int .i64 ((rd_T43 l1 x9_2).f0)) ∧ w24.cell? ⟨(ad226.add ((x9_2).toNat * 6)).block, (ad226.add ((x9_2).toNat * 6)).off + 1, none⟩ = some (.int .i64 ((rd_T43 l1 x9_2).f1)) ∧ w24.cell? ⟨(ad226.add ((x9_2).toNat * 6)).block, (ad226.add ((x9_2).toNat * 6)).off + 2, none⟩ = some (.int .i64 ((rd_T43 l1 x9_2).f2)) ∧ w24.cell? ⟨(ad226.add ((x9_2).toNat * 6)).block, (ad226.add ((x9_2).toNat * 6)).off + 3, none⟩ = some (.int .i64 ((rd_T43 l1 x9_2).f3)) ∧ w24.cell? ⟨(ad226.add ((x9_2).toNat * 6)).block, (ad226.add ((x9_2).toNat * 6)).off + 4, none⟩ = some (.int .i64 ((rd_T43 l1 x9_2).f4)) ∧ w24.cell? ⟨(ad226.add ((x9_2).toNat * 6)).block, (ad226.add ((x9_2).toNat * 6)).off + 5, none⟩ = some (.int .i64 ((rd_T43 l1 x9_2).f5)) ∧ w24.cell? (ad226.add ((x9_2).toNat * 6)) = some (.int .i64 ((rd_T43 l1 x9_2).f0)) ∧ w24.cell? ⟨(ad226.add ((x9_2).toNat * 6)).block, (ad226.add ((x9_2).toNat * 6)).off + 1, none⟩ = some (.int .i64 ((rd_T43 l1 x9_2).f1)) ∧ w24.cell? ⟨(ad226.add ((x9_2).toNat * 6)).block, (ad226.add ((x9_2).toNat * 6)).off + 2, none⟩ = some (.int .i64 ((rd_T43 l1 x9_2).f2)) ∧ w24.cell? ⟨(ad226.add ((x9_2).toNat * 6)).block, (ad226.add ((x9_2).toNat * 6)).off + 3, none⟩ = some (.int .i64 ((rd_T43 l1 x9_2).f3)) ∧ w24.cell? ⟨(ad226.add ((x9_2).toNat * 6)).block, (ad226.add ((x9_2).toNat * 6)).off + 4, none⟩ = some (.int .i64 ((rd_T43 l1 x9_2).f4)) ∧ w24.cell? ⟨(ad226.add ((x9_2).toNat * 6)).block, (ad226.add ((x9_2).toNat * 6)).off + 5, none⟩ = some (.int .i64 ((rd_T43 l1 x9_2).f5)) := hS_
                      obtain ⟨Ao26, co26, eo26⟩ := Kd.R_slice HO238.out
                      (first | subst eo26 | (injection eo26 with f1_ f2_ f3_; have f4_ := f1_.symm; have f5_ := f3_.symm; clear f1_ f2_ f3_; subst f4_; subst f5_))
                      refine norm_ (a' := ?_) ?_ ?_
                      rotate_left
                      · simp only [putAll, Act.put, List.setIfInBounds_toArray, List.set_cons_zero, List.set_cons_succ]
                        rfl
                      refine one_ (i := 14) (N := some 47) #[true, true, true, true, true, true, true, true, true, true, true, true, true, true, true, false] rfl rfl (one_of HT_.out (by kernel_rfl)) (by decide) (fun K hK => ?_)
                      refine Kd.R_append_rows_step (Kd.int .i64) (w0 := w) w.heap.size (by rfl) (.tmp 40) (.tmp 46) 29 3 (.int .i64 0) 8 rfl Try.underlying29 info3 rfl (by decide) (by omega) v233 y232 y236 _ _ _ (fun k_ => some k_ ≠ (v230 : Value).ownBlock ∧ some k_ ≠ (.slice Ao26 y236.length co26 : Value).ownBlock) (fun _ => False) rfl rfl ?aO ?aR (fun _ _ h => h) (fun _ h => h.elim) ?aF ?aB ?aS ?aL ?_
                      (case aR => repeat (first | exact (Kd.R_reads' HO238.out).2.2 | (with_reducible refine Kd.C_alloc ?_ _) | (with_reducible refine Kd.C_drewN ?_ _) | (with_reducible refine Kd.C_drew ?_)))
                      (case aB => exact (by repeat (first | (with_reducible first | exact HB.out | apply below_alloc | apply pw_below_drewN | apply below_drew1) | exact HB.out)))
                      (case aF => exact (fun k_ hk => ⟨Kd.fresh' (Kd.R_lt (by (with_reducible repeat (first | apply Kd.R_alloc | apply Kd.R_drewN | apply Kd.R_drew)); exact HO231.out)) k_ hk, Kd.fresh' (Kd.R_lt (by (with_reducible repeat (first | apply Kd.R_alloc | apply Kd.R_drewN | apply Kd.R_drew)); exact HO238.out)) k_ hk⟩))
                      (case aO => exact (by (with_reducible repeat (first | apply Kd.R_alloc | apply Kd.R_drewN | apply Kd.R_drew)); exact HO234.out))
                      (case aS => exact (below_size (by repeat (first | (with_reducible first | exact HB.out | apply below_alloc | apply pw_below_drewN | apply below_drew1) | exact HB.out))))
                      (case aL => have := LMc14.out; omega)
                      intro v240 w25 ho hb hg hat
                      rw [← Ny239.out] at ho
                      have n0_ := Aside0.mk (Kd.R_after (ok := (fun k_ => some k_ ≠ (.slice Ao26 y236.length co26 : Value).ownBlock)) (by (with_reducible repeat (first | apply Kd.R_alloc | apply Kd.R_drewN | apply Kd.R_drew)); exact Kd.R_mono HO231.out (fun _ hk => ⟨hk.2, hk.1⟩)) hg hat)
                      have n1_ := Aside0.mk (Kd.R_after (ok := (fun k_ => some k_ ≠ (v230 : Value).ownBlock)) (by (with_reducible repeat (first | apply Kd.R_alloc | apply Kd.R_drewN | apply Kd.R_drew)); exact HO238.out) hg hat)
                      have n2_ := Aside0.mk (hb)
                      have n3_ := Aside0.mk (ho)
                      clear HO231
                      clear HO238
                      clear HB
                      clear HO234
                      have HO231 := n0_
                      have HO238 := n1_
                      have HB := n2_
                      have HO241 := n3_
                      clear n0_ n1_ n2_ n3_
                      clear ho hb hg hat
                      refine hK.out _ _ ⟨((HB.out.cell (World.block_lt_of_cell? w _ hw228_0)).trans hw228_0), ((HB.out.cell (World.block_lt_of_cell? w _ hw228_1)).trans hw228_1), ((HB.out.cell (World.block_lt_of_cell? w _ hw228_2)).trans hw228_2), ((HB.out.cell (World.block_lt_of_cell? w _ hw228_3)).trans hw228_3), ((HB.out.cell (World.block_lt_of_cell? w _ hw228_4)).trans hw228_4), ((HB.out.cell (World.block_lt_of_cell? w _ hw228_5)).trans hw228_5), ((HB.out.cell (World.block_lt_of_cell? w _ hw235_0)).trans hw235_0), ((HB.out.cell (World.block_lt_of_cell? w _ hw235_1)).trans hw235_1), ((HB.out.cell (World.block_lt_of_cell? w _ hw235_2)).trans hw235_2), ((HB.out.cell (World.block_lt_of_cell? w _ hw235_3)).trans hw235_3), ((HB.out.cell (World.block_lt_of_cell? w _ hw235_4)).trans hw235_4), ((HB.out.cell (World.block_lt_of_cell? w _ hw235_5)).trans hw235_5)⟩ (fun hHeld => ?_)
                      clear hK K
                      refine norm_ (a' := ?_) ?_ ?_
                      rotate_left
                      · show Act.put _ (some 47) _ = _
                        simp only [Act.put, List.setIfInBounds_toArray, List.set_cons_zero, List.set_cons_succ, i64_w, i32_w]
                        rfl
                      refine pure_ (i := 15) (N := some 8) (v := ?_) (a' := ?_) #[true, true, true, true, true, true, true, true, true, true, true, true, true, true, true, true] rfl rfl (any_of HT_.out (by kernel_rfl)) (fun _ _ _ h => h) (Or.inl ⟨by rfl, ?_⟩) ?_ ?_
                      rotate_left
                      · intro w'
                        go_simp
                        with_reducible rfl
                      rotate_left
                      · simp only [Act.put, List.setIfInBounds_toArray, List.set_cons_zero, List.set_cons_succ, i64_w, i32_w]
                        rfl
                      refine done_ (done_of HT_.out (by kernel_rfl)) ?_
                      try go_wp2
                      go_roundg k2
                      case measure => have := HJ3.out; have := HK2.out; omega
                      case rel => exact ⟨(y239), (wrap64 (x9_2 + 1)), (by first | rfl | (simp; done) | (simp [*]; done)), H', ⟨by have := HJ3.out; have := HK2.out; omega⟩, ⟨by (with_reducible repeat (first | apply Kd.R_alloc | apply Kd.R_drewN | apply Kd.R_drew)); exact Kd.R_mono HO241.out (fun _ hk => trivial)⟩, ⟨by repeat (first | (with_reducible first | exact HB.out | apply below_alloc | apply pw_below_drewN | apply below_drew1) | exact HB.out)⟩⟩
                    · rw [if_neg c14] at H
                      exact absurd H (by simp)
                  · rw [if_neg c13] at H
                    exact absurd H (by simp)
                · replace c12 := Bool.eq_false_iff.mpr c12
                  subst c12
                  have H1 : (prebendref08_Use.l0 k2 l0 l1 a2 x8_2 (wrap64 (x9_2 + 1))) = some (r1, r2) := by rw [if_neg (show ¬ (false = true) by decide)] at H; exact H
                  clear H
                  have H := H1
                  clear H1
                  have H' := Aside0.mk H
                  clear H
                  have p226 : 0 ≤ (x9_2 : Int) := of_decide_eq_true (by first | (with_reducible assumption) | assumption)
                  have q226 : x9_2 < (l1.length : Int) := of_decide_eq_true (by first | (with_reducible assumption) | assumption)
                  obtain ⟨ad226, e226, hx226_0, hx226_1, hx226_2, hx226_3, hx226_4, hx226_5⟩ := at_T43 HR1.out x9_2 p226 q226
                  cases e226
                  replace hx226_0 := (HB.out.cell (World.block_lt_of_cell? w _ hx226_0)).trans hx226_0
                  replace hx226_1 := (HB.out.cell (World.block_lt_of_cell? w _ hx226_1)).trans hx226_1
                  replace hx226_2 := (HB.out.cell (World.block_lt_of_cell? w _ hx226_2)).trans hx226_2
                  replace hx226_3 := (HB.out.cell (World.block_lt_of_cell? w _ hx226_3)).trans hx226_3
                  replace hx226_4 := (HB.out.cell (World.block_lt_of_cell? w _ hx226_4)).trans hx226_4
                  replace hx226_5 := (HB.out.cell (World.block_lt_of_cell? w _ hx226_5)).trans hx226_5
                  replace p226 := eq_true p226
                  replace q226 := eq_true q226
                  go_wp2_with (first | ((with_reducible refine gate_callee (f := 23) rfl ?_); refine goesL_ (some 32) rfl rfl Try.func23 (by kernel_rfl) rfl #[.slice A0 l0.length c0, .int .i64 ((rd_T43 l1 x9_2).f0), .int .i64 a2] rfl (by (try simp only [List.map_toArray, List.map_cons, List.map_nil]); first | done | rfl | (simp only [List.length_drop, List.length_take]; rfl)) ?_; (with_reducible refine (prebendref08_Below.calls k2 _ _ l0 ((rd_T43 l1 x9_2).f0) a2 false _ ?side1 ?side2 A11.out).mono ?_); (case side1 => repeat (first | exact (Kd.C_below HR0.out HB.out) | (with_reducible refine Kd.C_alloc ?_ _) | (with_reducible refine Kd.C_drewN ?_ _) | (with_reducible refine Kd.C_drew ?_))); (case side2 => exact HC0.out); rintro e w27 ⟨rfl, hb⟩; refine ⟨_, rfl, ?_⟩; have n0_ := Aside0.mk (Kd.R_below (by (with_reducible repeat (first | apply Kd.R_alloc | apply Kd.R_drewN | apply Kd.R_drew)); exact HO_8.out) hb); have n1_ := Aside0.mk (below_step (by repeat (first | (with_reducible first | exact HB.out | apply below_alloc | apply pw_below_drewN | apply below_drew1) | exact HB.out)) hb); clear HO_8; clear HB; have HO_8 := n0_; have HB := n1_; clear n0_ n1_; (try clear hb); (try clear hb2); (try clear hk); (try clear hi)))
                  go_roundg k2
                  case measure => have := HJ3.out; have := HK2.out; omega
                  case rel => exact ⟨(x8_2), (wrap64 (x9_2 + 1)), (by first | rfl | (simp; done) | (simp [*]; done)), H', ⟨by have := HJ3.out; have := HK2.out; omega⟩, ⟨by (with_reducible repeat (first | apply Kd.R_alloc | apply Kd.R_drewN | apply Kd.R_drew)); exact HO_8.out⟩, ⟨by repeat (first | (with_reducible first | exact HB.out | apply below_alloc | apply pw_below_drewN | apply below_drew1) | exact HB.out)⟩⟩
              · rw [if_neg c10] at H
                exact absurd H (by simp)
            · rw [if_neg c9] at H
              have c9b0 : decide (x9_2 < (l1.length : Int)) = false := decide_eq_false c9
              clear c9
              replace H := Option.bind_eq_some_iff.mp H
              obtain ⟨⟨t242, t243⟩, A280, H⟩ := H
              replace H : (some (t242, t243)) = some (r1, r2) := H
              have A28 := Aside0.mk A280
              clear A280
              simp only [Option.some.injEq, Prod.mk.injEq] at H
              obtain ⟨rfl, rfl⟩ := H
              obtain ⟨Ao29, co29, eo29⟩ := Kd.R_slice HO_8.out
              subst eo29
              go_wp2_with (first | ((with_reducible refine gate_callee (f := 24) rfl ?_); refine goesL_ (some 49) rfl rfl Try.func24 (by kernel_rfl) rfl #[.slice Ao29 x8_2.length co29] rfl (by (try simp only [List.map_toArray, List.map_cons, List.map_nil]); first | done | rfl | (simp only [List.length_drop, List.length_take]; rfl)) ?_; (with_reducible refine (prebendref01_Add.calls k2 _ _ x8_2 t242 t243 _ ?side1 ?side2 A28.out).mono ?_); (case side1 => repeat (first | exact (Kd.R_reads' HO_8.out).2.2 | (with_reducible refine Kd.C_alloc ?_ _) | (with_reducible refine Kd.C_drewN ?_ _) | (with_reducible refine Kd.C_drew ?_))); (case side2 => exact (Kd.R_reads' HO_8.out).2.1); rintro e w' ⟨rfl, ⟨nd, rfl⟩⟩; refine ⟨_, rfl, ?_⟩))
              go_ret2
              exact ⟨by first | rfl | (simp [errW_none, errW_some] <;> rfl) | (simp [*, errW_none, errW_some] <;> rfl), by repeat (first | (with_reducible first | exact HB.out | apply below_alloc | apply pw_below_drewN | apply below_drew1) | exact HB.out)⟩

end Go.Proofs.Ytfdlncakhnlgoaa.PAll
