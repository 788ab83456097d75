/- Words, plain functions and contracts of the functions that the law of this claim reaches; no conditions. -/
import Derived.Test.YtedpoahndddgfaaBProfilePlays4
section
namespace Go.Proofs.Ytedpoahndddgfaa.PAll
open Go.RowKit Go.Proofs.YtedpoahndddgfaaW.PrintWords Go.Proofs.YtedpoahndddgfaaW.PrintLast Go.Proofs.YtedpoahndddgfaaW.PrintMore
attribute [local go_sem] max2_int min2_int max_two min_two max_three min_three max_four min_four   -- for this text's walks alone
set_option linter.unusedVariables false
set_option linter.unusedSimpArgs false

/-! ### prebendlaw16_ProfilePlays: function 3 -/
mutual
def prebendlaw16_ProfilePlays.l0 : Nat → List (S33) → Int → Int → Int → List (S40) → List (S40) → Int → Option (Bool)
 | 0, _, _, _, _, _, _, _ => none
 | k + 1, x3, x4, x5, x6, x17, x18, x19 => if x19 ≤ (x3.length : Int) then (prebendlaw16_ProfilePlays.j1 k x3 x4 x5 x6 x17 x18 x19 (decide (x19 < 12))) else (prebendlaw16_ProfilePlays.j1 k x3 x4 x5 x6 x17 x18 x19 false)
def prebendlaw16_ProfilePlays.j1 : Nat → List (S33) → Int → Int → Int → List (S40) → List (S40) → Int → Bool → Option (Bool)
 | 0, _, _, _, _, _, _, _, _ => none
 | k + 1, x3, x4, x5, x6, x17, x18, x19, x46 => if x46 = true then ((prebendref16_Held.f x5 1048576).bind fun t413 => ((prebendref16_Held.f x6 1125899906842624).bind fun t414 => ((profile_Fit.f k x17 t413 t414).bind fun bt415 => ((prebendref16_Held.f x5 1048576).bind fun t417 => ((prebendref16_Held.f x6 1125899906842624).bind fun t418 => ((prebendref16_Fit.f k x18 t417 t418).bind fun bt419 => ((prebendref16_Same.f k x17 x18).bind fun t421 => (if t421 = true then (if bt415.1 = bt419.1 then (if (bt415.2 != bt419.2) = true then (prebendlaw16_ProfilePlays.j2 k x3 x4 x5 x6 x17 x18 x19 true) else ((prebendref16_Held.f x4 1125899906842624).bind fun t422 => ((profile_At.f k x17 t422).bind fun t423 => ((prebendref16_Held.f x4 1125899906842624).bind fun t424 => ((prebendref16_At.f k x18 t424).bind fun t425 => (prebendlaw16_ProfilePlays.j2 k x3 x4 x5 x6 x17 x18 x19 (t423 != t425))))))) else (prebendlaw16_ProfilePlays.j2 k x3 x4 x5 x6 x17 x18 x19 true)) else (prebendlaw16_ProfilePlays.j2 k x3 x4 x5 x6 x17 x18 x19 true))))))))) else ((prebendlaw16_awake.f k).bind fun t412 => (some t412))
def prebendlaw16_ProfilePlays.j2 : Nat → List (S33) → Int → Int → Int → List (S40) → List (S40) → Int → Bool → Option (Bool)
 | 0, _, _, _, _, _, _, _, _ => none
 | k + 1, x3, x4, x5, x6, x17, x18, x19, x91 => if x91 = true then (some false) else (if x19 < (x3.length : Int) then (if 0 ≤ x19 then ((prebendref16_Held.f ((rd_T33 x3 x19).f0) 562949953421312).bind fun t427 => ((prebendref16_Held.f ((rd_T33 x3 x19).f1) 562949953421312).bind fun t429 => ((prebendref16_Held.f ((rd_T33 x3 x19).f2) 1048576).bind fun t431 => ((profile_Take.f k x17 t427 t429 t431).bind fun t433 => ((prebendref16_Take.f k x18 t427 t429 t431).bind fun t436 => (prebendlaw16_ProfilePlays.l0 k x3 x4 x5 x6 t433 t436 (wrap64 (x19 + 1)))))))) else (none)) else (prebendlaw16_ProfilePlays.l0 k x3 x4 x5 x6 x17 x18 (wrap64 (x19 + 1))))
end
def prebendlaw16_ProfilePlays.f (k : Nat) (a0 : Int) (a1 : Int) (l2 : List (S38)) (l3 : List (S33)) (a4 : Int) (a5 : Int) (a6 : Int) : Option (Bool) := (prebendref16_Held.f a0 1125899906842624).bind fun t398 => ((prebendref16_Held.f a1 1048576).bind fun t399 => ((prebendref16_Busy.f k l2).bind fun t400 => ((profile_New.f k t398 t399 t400).bind fun t403 => ((prebendref16_Busy.f k l2).bind fun t406 => ((prebendref16_New.f k t398 t399 t406).bind fun t409 => (prebendlaw16_ProfilePlays.l0 k l3 a4 a5 a6 t403 t409 0))))))
theorem prebendlaw16_ProfilePlays.mono_l : ∀ k, (∀ y0 y1 y2 y3 y4 y5 y6, LeO (prebendlaw16_ProfilePlays.l0 k y0 y1 y2 y3 y4 y5 y6) (prebendlaw16_ProfilePlays.l0 (k + 1) y0 y1 y2 y3 y4 y5 y6)) ∧ (∀ y0 y1 y2 y3 y4 y5 y6 y7, LeO (prebendlaw16_ProfilePlays.j1 k y0 y1 y2 y3 y4 y5 y6 y7) (prebendlaw16_ProfilePlays.j1 (k + 1) y0 y1 y2 y3 y4 y5 y6 y7)) ∧ (∀ y0 y1 y2 y3 y4 y5 y6 y7, LeO (prebendlaw16_ProfilePlays.j2 k y0 y1 y2 y3 y4 y5 y6 y7) (prebendlaw16_ProfilePlays.j2 (k + 1) y0 y1 y2 y3 y4 y5 y6 y7))
 | 0 => ⟨fun _ _ _ _ _ _ _ r h => by simp [prebendlaw16_ProfilePlays.l0] at h, fun _ _ _ _ _ _ _ _ r h => by simp [prebendlaw16_ProfilePlays.j1] at h, fun _ _ _ _ _ _ _ _ r h => by simp [prebendlaw16_ProfilePlays.j2] at h⟩
 | k + 1 => by
  obtain ⟨ih0, ih1, ih2⟩ := prebendlaw16_ProfilePlays.mono_l k
  refine ⟨?_, ?_, ?_⟩
  ·intro y0 y1 y2 y3 y4 y5 y6
   unfold prebendlaw16_ProfilePlays.l0
   repeat' first
   | (with_reducible exact ih0 _ _ _ _ _ _ _)
   | (with_reducible exact ih1 _ _ _ _ _ _ _ _)
   | (with_reducible exact ih2 _ _ _ _ _ _ _ _)
   | (with_reducible exact prebendlaw16_awake.mono _)
   | (with_reducible exact prebendref16_At.mono _ _ _)
   | (with_reducible exact prebendref16_Busy.mono _ _)
   | (with_reducible exact prebendref16_Fit.mono _ _ _ _)
   | (with_reducible exact prebendref16_New.mono _ _ _ _)
   | (with_reducible exact prebendref16_Same.mono _ _ _)
   | (with_reducible exact prebendref16_Take.mono _ _ _ _ _)
   | (with_reducible exact profile_At.mono _ _ _)
   | (with_reducible exact profile_Fit.mono _ _ _ _)
   | (with_reducible exact profile_New.mono _ _ _ _)
   | (with_reducible exact profile_Take.mono _ _ _ _ _)
   | (with_reducible exact LeO.refl _)
   | (with_reducible exact LeO.none _)
   | (with_reducible refine LeO.ite ?_ ?_)
   | (with_reducible refine LeO.bind ?_ (fun _ => ?_))
   | exact ih0 _ _ _ _ _ _ _
   | exact ih1 _ _ _ _ _ _ _ _
   | exact ih2 _ _ _ _ _ _ _ _
   | exact prebendlaw16_awake.mono _
   | exact prebendref16_At.mono _ _ _
   | exact prebendref16_Busy.mono _ _
   | exact prebendref16_Fit.mono _ _ _ _
   | exact prebendref16_New.mono _ _ _ _
   | exact prebendref16_Same.mono _ _ _
   | exact prebendref16_Take.mono _ _ _ _ _
   | exact profile_At.mono _ _ _
   | exact profile_Fit.mono _ _ _ _
   | exact profile_New.mono _ _ _ _
   | exact profile_Take.mono _ _ _ _ _
   | exact LeO.none _
   | refine LeO.ite ?_ ?_
   | refine LeO.bind ?_ (fun _ => ?_)
  ·intro y0 y1 y2 y3 y4 y5 y6 y7
   unfold prebendlaw16_ProfilePlays.j1
   repeat' first
   | (with_reducible exact ih0 _ _ _ _ _ _ _)
   | (with_reducible exact ih1 _ _ _ _ _ _ _ _)
   | (with_reducible exact ih2 _ _ _ _ _ _ _ _)
   | (with_reducible exact prebendlaw16_awake.mono _)
   | (with_reducible exact prebendref16_At.mono _ _ _)
   | (with_reducible exact prebendref16_Busy.mono _ _)
   | (with_reducible exact prebendref16_Fit.mono _ _ _ _)
   | (with_reducible exact prebendref16_New.mono _ _ _ _)
   | (with_reducible exact prebendref16_Same.mono _ _ _)
   | (with_reducible exact prebendref16_Take.mono _ _ _ _ _)
   | (with_reducible exact profile_At.mono _ _ _)
   | (with_reducible exact profile_Fit.mono _ _ _ _)
   | (with_reducible exact profile_New.mono _ _ _ _)
   | (with_reducible exact profile_Take.mono _ _ _ _ _)
   | (with_reducible exact LeO.refl _)
   | (with_reducible exact LeO.none _)
   | (with_reducible refine LeO.ite ?_ ?_)
   | (with_reducible refine LeO.bind ?_ (fun _ => ?_))
   | exact ih0 _ _ _ _ _ _ _
   | exact ih1 _ _ _ _ _ _ _ _
   | exact ih2 _ _ _ _ _ _ _ _
   | exact prebendlaw16_awake.mono _
   | exact prebendref16_At.mono _ _ _
   | exact prebendref16_Busy.mono _ _
   | exact prebendref16_Fit.mono _ _ _ _
   | exact prebendref16_New.mono _ _ _ _
   | exact prebendref16_Same.mono _ _ _
   | exact prebendref16_Take.mono _ _ _ _ _
   | exact profile_At.mono _ _ _
   | exact profile_Fit.mono _ _ _ _
   | exact profile_New.mono _ _ _ _
   | exact profile_Take.mono _ _ _ _ _
   | exact LeO.none _
   | refine LeO.ite ?_ ?_
   | refine LeO.bind ?_ (fun _ => ?_)
  ·intro y0 y1 y2 y3 y4 y5 y6 y7
   unfold prebendlaw16_ProfilePlays.j2
   repeat' first
   | (with_reducible exact ih0 _ _ _ _ _ _ _)
   | (with_reducible exact ih1 _ _ _ _ _ _ _ _)
   | (with_reducible exact ih2 _ _ _ _ _ _ _ _)
   | (with_reducible exact prebendlaw16_awake.mono _)
   | (with_reducible exact prebendref16_At.mono _ _ _)
   | (with_reducible exact prebendref16_Busy.mono _ _)
   | (with_reducible exact prebendref16_Fit.mono _ _ _ _)
   | (with_reducible exact prebendref16_New.mono _ _ _ _)
   | (with_reducible exact prebendref16_Same.mono _ _ _)
   | (with_reducible exact prebendref16_Take.mono _ _ _ _ _)
   | (with_reducible exact profile_At.mono _ _ _)
   | (with_reducible exact profile_Fit.mono _ _ _ _)
   | (with_reducible exact profile_New.mono _ _ _ _)
   | (with_reducible exact profile_Take.mono _ _ _ _ _)
   | (with_reducible exact LeO.refl _)
   | (with_reducible exact LeO.none _)
   | (with_reducible refine LeO.ite ?_ ?_)
   | (with_reducible refine LeO.bind ?_ (fun _ => ?_))
   | exact ih0 _ _ _ _ _ _ _
   | exact ih1 _ _ _ _ _ _ _ _
   | exact ih2 _ _ _ _ _ _ _ _
   | exact prebendlaw16_awake.mono _
   | exact prebendref16_At.mono _ _ _
   | exact prebendref16_Busy.mono _ _
   | exact prebendref16_Fit.mono _ _ _ _
   | exact prebendref16_New.mono _ _ _ _
   | exact prebendref16_Same.mono _ _ _
   | exact prebendref16_Take.mono _ _ _ _ _
   | exact profile_At.mono _ _ _
   | exact profile_Fit.mono _ _ _ _
   | exact profile_New.mono _ _ _ _
   | exact profile_Take.mono _ _ _ _ _
   | exact LeO.none _
   | refine LeO.ite ?_ ?_
   | refine LeO.bind ?_ (fun _ => ?_)
theorem prebendlaw16_ProfilePlays.mono : ∀ a0 a1 a2 a3 a4 a5 a6 k, LeO (prebendlaw16_ProfilePlays.f k a0 a1 a2 a3 a4 a5 a6) (prebendlaw16_ProfilePlays.f (k + 1) a0 a1 a2 a3 a4 a5 a6) := by
 intro a0 a1 a2 a3 a4 a5 a6 k
 obtain ⟨ih0, ih1, ih2⟩ := prebendlaw16_ProfilePlays.mono_l k
 unfold prebendlaw16_ProfilePlays.f
 repeat' first
   | (with_reducible exact ih0 _ _ _ _ _ _ _)
   | (with_reducible exact ih1 _ _ _ _ _ _ _ _)
   | (with_reducible exact ih2 _ _ _ _ _ _ _ _)
   | (with_reducible exact prebendlaw16_awake.mono _)
   | (with_reducible exact prebendref16_At.mono _ _ _)
   | (with_reducible exact prebendref16_Busy.mono _ _)
   | (with_reducible exact prebendref16_Fit.mono _ _ _ _)
   | (with_reducible exact prebendref16_New.mono _ _ _ _)
   | (with_reducible exact prebendref16_Same.mono _ _ _)
   | (with_reducible exact prebendref16_Take.mono _ _ _ _ _)
   | (with_reducible exact profile_At.mono _ _ _)
   | (with_reducible exact profile_Fit.mono _ _ _ _)
   | (with_reducible exact profile_New.mono _ _ _ _)
   | (with_reducible exact profile_Take.mono _ _ _ _ _)
   | (with_reducible exact LeO.refl _)
   | (with_reducible exact LeO.none _)
   | (with_reducible refine LeO.ite ?_ ?_)
   | (with_reducible refine LeO.bind ?_ (fun _ => ?_))
   | exact ih0 _ _ _ _ _ _ _
   | exact ih1 _ _ _ _ _ _ _ _
   | exact ih2 _ _ _ _ _ _ _ _
   | exact prebendlaw16_awake.mono _
   | exact prebendref16_At.mono _ _ _
   | exact prebendref16_Busy.mono _ _
   | exact prebendref16_Fit.mono _ _ _ _
   | exact prebendref16_New.mono _ _ _ _
   | exact prebendref16_Same.mono _ _ _
   | exact prebendref16_Take.mono _ _ _ _ _
   | exact profile_At.mono _ _ _
   | exact profile_Fit.mono _ _ _ _
   | exact profile_New.mono _ _ _ _
   | exact profile_Take.mono _ _ _ _ _
   | exact LeO.none _
   | refine LeO.ite ?_ ?_
   | refine LeO.bind ?_ (fun _ => ?_)
def prebendlaw16_ProfilePlays.T11 : Bool × List (List Nat × List Nat) := (true, [([], []), ([], []), ([0, 1], [0, 1]), ([2], [2]), ([3], [3]), ([4], [4]), ([], []), ([], []), ([6, 7], [6, 7]), ([8], [8]), ([9], [9]), ([10, 5], [10]), ([], []), ([], []), ([12, 13], [12, 13]), ([14], [14]), ([15], [15]), ([16, 11], [16]), ([5, 11, 17], [5, 11, 17]), ([], []), ([19, 18, 17, 0, 1, 2, 3, 4, 5, 6, 7, 8, 9, 10, 11, 12, 13, 14, 15, 16, 17, 18, 19], [18, 19])])
def prebendlaw16_ProfilePlays.B11 : List Nat := [0, 0, 3, 7, 15, 31, 0, 0, 192, 448, 960, 2047, 0, 0, 12288, 28672, 61440, 131071, 262143, 0, 1048575]
theorem prebendlaw16_ProfilePlays.tab11 : rtab .any (opsOf Try.f3 11) = prebendlaw16_ProfilePlays.T11 := by kernel_rfl
theorem prebendlaw16_ProfilePlays.bits11 : waitsOk prebendlaw16_ProfilePlays.T11.2 prebendlaw16_ProfilePlays.B11 = true := by kernel_rfl
def prebendlaw16_ProfilePlays.T12 : Bool × List (List Nat × List Nat) := (true, [([], []), ([], []), ([1], [1]), ([], []), ([3], [3]), ([], []), ([5], [5]), ([0, 2, 4, 6], [0, 2, 4, 6]), ([], []), ([], []), ([9], [9]), ([], []), ([11], [11]), ([], []), ([13], [13]), ([8, 10, 12, 14, 7], [8, 10, 12, 14]), ([7, 15, 0, 1, 2, 3, 4, 5, 6, 7], [0, 7]), ([15, 16, 0, 1, 2, 3, 4, 5, 6, 7, 8, 9, 10, 11, 12, 13, 14, 15, 16], [8, 15])])
def prebendlaw16_ProfilePlays.B12 : List Nat := [0, 0, 2, 0, 8, 0, 32, 127, 0, 0, 512, 0, 2048, 0, 8192, 32767, 65535, 131071]
theorem prebendlaw16_ProfilePlays.tab12 : rtab .any (opsOf Try.f3 12) = prebendlaw16_ProfilePlays.T12 := by kernel_rfl
theorem prebendlaw16_ProfilePlays.bits12 : waitsOk prebendlaw16_ProfilePlays.T12.2 prebendlaw16_ProfilePlays.B12 = true := by kernel_rfl
set_option maxHeartbeats 8000000 in
set_option maxRecDepth 100000 in
theorem prebendlaw16_ProfilePlays.calls (k : Nat) (a0 : Int) (a1 : Int) (A2 : Option Addr) (c2 : Nat) (l2 : List (S38)) (A3 : Option Addr) (c3 : Nat) (l3 : List (S33)) (a4 : Int) (a5 : Int) (a6 : Int) (r : Bool) (w : World) (hr2 : Kd.C k38 w A2 l2.length l2) (hc2 : l2.length ≤ c2) (hr3 : Kd.C k33 w A3 l3.length l3) (hc3 : l3.length ≤ c3) (h : prebendlaw16_ProfilePlays.f k a0 a1 l2 l3 a4 a5 a6 = some r) :
  Calls Try.prog 3 #[.int .i64 a0, .int .i64 a1, .slice A2 l2.length c2, .slice A3 l3.length c3, .int .i64 a4, .int .i64 a5, .int .i64 a6] w fun e w' => e = .returned (.bool r) ∧ Below w.heap.size w w' := by
 have hu33 := Try.underlying33
 have HR2 := Aside0.mk hr2
 have HC2 := Aside0.mk hc2
 clear hr2; clear hc2
 have HR3 := Aside0.mk hr3
 have HC3 := Aside0.mk hc3
 clear hr3; clear hc3
 have HB := Aside0.mk (Below.refl w.heap.size w)
 have H : ((prebendref16_Held.f a0 1125899906842624).bind fun t398 => ((prebendref16_Held.f a1 1048576).bind fun t399 => ((prebendref16_Busy.f k l2).bind fun t400 => ((profile_New.f k t398 t399 t400).bind fun t403 => ((prebendref16_Busy.f k l2).bind fun t406 => ((prebendref16_New.f k t398 t399 t406).bind fun t409 => (prebendlaw16_ProfilePlays.l0 k l3 a4 a5 a6 t403 t409 0))))))) = some r := h
 clear h
 replace H := Option.bind_eq_some_iff.mp H
 obtain ⟨t398, A80, H⟩ := H
 replace H : ((prebendref16_Held.f a1 1048576).bind fun t399 => ((prebendref16_Busy.f k l2).bind fun t400 => ((profile_New.f k t398 t399 t400).bind fun t403 => ((prebendref16_Busy.f k l2).bind fun t406 => ((prebendref16_New.f k t398 t399 t406).bind fun t409 => (prebendlaw16_ProfilePlays.l0 k l3 a4 a5 a6 t403 t409 0)))))) = some r := H
 have A8 := Aside0.mk A80
 clear A80
 replace H := Option.bind_eq_some_iff.mp H
 obtain ⟨t399, A90, H⟩ := H
 replace H : ((prebendref16_Busy.f k l2).bind fun t400 => ((profile_New.f k t398 t399 t400).bind fun t403 => ((prebendref16_Busy.f k l2).bind fun t406 => ((prebendref16_New.f k t398 t399 t406).bind fun t409 => (prebendlaw16_ProfilePlays.l0 k l3 a4 a5 a6 t403 t409 0))))) = some r := H
 have A9 := Aside0.mk A90
 clear A90
 replace H := Option.bind_eq_some_iff.mp H
 obtain ⟨t400, A100, H⟩ := H
 replace H : ((profile_New.f k t398 t399 t400).bind fun t403 => ((prebendref16_Busy.f k l2).bind fun t406 => ((prebendref16_New.f k t398 t399 t406).bind fun t409 => (prebendlaw16_ProfilePlays.l0 k l3 a4 a5 a6 t403 t409 0)))) = some r := H
 have A10 := Aside0.mk A100
 clear A100
 replace H := Option.bind_eq_some_iff.mp H
 obtain ⟨t403, A110, H⟩ := H
 replace H : ((prebendref16_Busy.f k l2).bind fun t406 => ((prebendref16_New.f k t398 t399 t406).bind fun t409 => (prebendlaw16_ProfilePlays.l0 k l3 a4 a5 a6 t403 t409 0))) = some r := H
 have A11 := Aside0.mk A110
 clear A110
 replace H := Option.bind_eq_some_iff.mp H
 obtain ⟨t406, A120, H⟩ := H
 replace H : ((prebendref16_New.f k t398 t399 t406).bind fun t409 => (prebendlaw16_ProfilePlays.l0 k l3 a4 a5 a6 t403 t409 0)) = some r := H
 have A12 := Aside0.mk A120
 clear A120
 replace H := Option.bind_eq_some_iff.mp H
 obtain ⟨t409, A130, H⟩ := H
 replace H : (prebendlaw16_ProfilePlays.l0 k l3 a4 a5 a6 t403 t409 0) = some r := H
 have A13 := Aside0.mk A130
 clear A130
 have H' := Aside0.mk H
 clear H
 go_enter Try.func3, Try.ntmps3
 go_wp2_with (first | ((with_reducible refine gate_callee (f := 13) rfl ?_); refine goesL_ (some 26) rfl rfl Try.func13 (by kernel_rfl) rfl #[.int .i64 a0, .int .i64 1125899906842624] rfl mt ?_; (with_reducible refine (prebendref16_Held.calls a0 1125899906842624 t398 _ A8.out).mono ?_); rintro e w' ⟨rfl, ⟨nd, rfl⟩⟩; refine ⟨_, rfl, ?_⟩) | ((with_reducible refine gate_callee (f := 13) rfl ?_); refine goesL_ (some 28) rfl rfl Try.func13 (by kernel_rfl) rfl #[.int .i64 a1, .int .i64 1048576] rfl mt ?_; (with_reducible refine (prebendref16_Held.calls a1 1048576 t399 _ A9.out).mono ?_); rintro e w' ⟨rfl, ⟨nd, rfl⟩⟩; refine ⟨_, rfl, ?_⟩) | ((with_reducible refine gate_callee (f := 15) rfl ?_); refine goesL_ (some 32) rfl rfl Try.func15 (by kernel_rfl) rfl #[.slice A2 l2.length c2] rfl mt ?_; (with_reducible refine (prebendref16_Busy.calls k _ _ l2 t400 _ ?side1 ?side2 A10.out).mono ?_); (case side1 => exact mC HR2.out); (case side2 => exact HC2.out); rintro e w14 ⟨v401, rfl, ho0, hb⟩; refine ⟨_, rfl, ?_⟩; have n0_ := Aside0.mk (Kd.R_lower ho0 (below_size (mB HB.out))); have n1_ := Aside0.mk (below_step (mB HB.out) hb); clear HB; have HO402 := n0_; have HB := n1_; clear n0_ n1_; (try clear hb); (try clear hb2); (try clear hk); (try clear hi); (try clear ho0); obtain ⟨Ao15, co15, eo15⟩ := Kd.R_slice HO402.out; subst eo15) | ((with_reducible refine gate_callee (f := 14) rfl ?_); refine goesL_ (some 33) rfl rfl Try.func14 (by kernel_rfl) rfl #[.int .i64 t398, .int .i64 t399, .slice Ao15 t400.length co15] rfl mt ?_; (with_reducible refine (profile_New.calls k t398 t399 _ _ t400 t403 _ ?side1 ?side2 A11.out).mono ?_); (case side1 => exact mC (Kd.R_reads' HO402.out).2.2); (case side2 => exact (Kd.R_reads' HO402.out).2.1); rintro e w16 ⟨v404, rfl, ho0, hb⟩; refine ⟨_, rfl, ?_⟩; have n0_ := Aside0.mk (Kd.R_below (mR HO402.out) hb); have n1_ := Aside0.mk (Kd.V_lower (Kd.V_mono (ok' := fun k_ => some k_ ≠ (.slice Ao15 t400.length co15 : Value).ownBlock) ho0 (fun k_ hk_ => (Kd.fresh' (Kd.R_lt (mR HO402.out)) k_ hk_))) (below_size (mB HB.out))); have n2_ := Aside0.mk (below_step (mB HB.out) hb); clear HO402; clear HB; have HO402 := n0_; have HO405 := n1_; have HB := n2_; clear n0_ n1_ n2_; (try clear hb); (try clear hb2); (try clear hk); (try clear hi); (try clear ho0)) | ((with_reducible refine gate_callee (f := 15) rfl ?_); refine goesL_ (some 37) rfl rfl Try.func15 (by kernel_rfl) rfl #[.slice A2 l2.length c2] rfl mt ?_; (with_reducible refine (prebendref16_Busy.calls k _ _ l2 t406 _ ?side1 ?side2 A12.out).mono ?_); (case side1 => repeat (first | exact (Kd.C_below HR2.out HB.out) | (with_reducible refine Kd.C_alloc ?_ _) | (with_reducible refine Kd.C_drewN ?_ _) | (with_reducible refine Kd.C_drew ?_))); (case side2 => exact HC2.out); rintro e w17 ⟨v407, rfl, ho0, hb⟩; refine ⟨_, rfl, ?_⟩; have n0_ := Aside0.mk (Kd.R_elder' (mR HO402.out) (Kd.R_base ho0) hb); have n1_ := Aside0.mk (Kd.V_elder' (mV HO405.out) (Kd.R_base ho0) hb); have n2_ := Aside0.mk (Kd.R_lower (Kd.R_new' ho0 (Kd.R_lt (mR HO402.out))) (below_size (mB HB.out))); have n3_ := Aside0.mk (below_step (mB HB.out) hb); clear HO402; clear HO405; clear HB; have HO402 := n0_; have HO405 := n1_; have HO408 := n2_; have HB := n3_; clear n0_ n1_ n2_ n3_; (try clear hb); (try clear hb2); (try clear hk); (try clear hi); (try clear ho0); obtain ⟨Ao18, co18, eo18⟩ := Kd.R_slice HO408.out; subst eo18) | ((with_reducible refine gate_callee (f := 16) rfl ?_); refine goesL_ (some 38) rfl rfl Try.func16 (by kernel_rfl) rfl #[.int .i64 t398, .int .i64 t399, .slice Ao18 t406.length co18] rfl mt ?_; (with_reducible refine (prebendref16_New.calls k t398 t399 _ _ t406 t409 _ ?side1 ?side2 A13.out).mono ?_); (case side1 => exact mC (Kd.R_reads' HO408.out).2.2); (case side2 => exact (Kd.R_reads' HO408.out).2.1); rintro e w19 ⟨v410, rfl, ho0, hb⟩; refine ⟨_, rfl, ?_⟩; have n0_ := Aside0.mk (Kd.R_below (mR HO402.out) hb); have n1_ := Aside0.mk (Kd.V_elder' (mV HO405.out) (Kd.R_base ho0) hb); have n2_ := Aside0.mk (Kd.R_below (mR HO408.out) hb); have n3_ := Aside0.mk (Kd.R_lower ho0 (below_size (mB HB.out))); have n4_ := Aside0.mk (below_step (mB HB.out) hb); clear HO402; clear HO405; clear HO408; clear HB; have HO402 := n0_; have HO405 := n1_; have HO408 := n2_; have HO411 := n3_; have HB := n4_; clear n0_ n1_ n2_ n3_ n4_; (try clear hb); (try clear hb2); (try clear hk); (try clear hi); (try clear ho0)))
 (try simp only [Act.put, List.setIfInBounds_toArray, List.set_cons_zero, List.set_cons_succ])
 go_loopg [17, 18, 19] k (fun kq v17 v18 v19 w' => ∃ (x17_1 : List (S40)) (x18_1 : List (S40)) (x19_1 : Int), v19 = .int .i64 x19_1 ∧ Aside0 (prebendlaw16_ProfilePlays.l0 kq l3 a4 a5 a6 x17_1 x18_1 x19_1 = some r) ∧ Aside0 (kq ≤ k) ∧ Aside0 (Kd.V k40 40 w' w.heap.size (fun k_ => some k_ ≠ (v18 : Value).ownBlock) v17 x17_1) ∧ Aside0 (Kd.R k40 40 w' w.heap.size (fun _ => True) v18 x18_1) ∧ Aside0 (Below w.heap.size w w'))
 case atStart => exact ⟨(t403), (t409), (0), ez, H', ⟨Nat.le_refl _⟩, ⟨by (with_reducible repeat (first | apply Kd.V_alloc | apply Kd.V_drewN | apply Kd.V_drew)); exact Kd.V_mono HO405.out (fun _ hk => hk.2)⟩, ⟨mR HO411.out⟩, ⟨mB HB.out⟩⟩
 case round =>
  clear H'
  (try clear c1); (try clear c2); (try clear p2); (try clear c3); (try clear c13); (try clear c14); (try clear c15); (try clear c16)
  obtain ⟨x17_1, x18_1, x19_1, rfl, HA, HK1, HO_17, HO_18, HB⟩ := hrel
  cases gk with
  | zero => exact absurd HA.out (by simp [prebendlaw16_ProfilePlays.l0])
  | succ k1 =>
   have H := HA.out
   clear HA
   simp only [prebendlaw16_ProfilePlays.l0] at H
   have HC20 := Aside0.mk H
   clear H
   go_upto_region 4 with (fail)
   go_cut [46] (fun v46 wc => ∃ (kq : Nat) (x46_19 : Bool), v46 = .bool x46_19 ∧ Aside0 (prebendlaw16_ProfilePlays.j1 kq l3 a4 a5 a6 x17_1 x18_1 x19_1 x46_19 = some r) ∧ Aside0 (kq ≤ k1) ∧ Aside0 (Kd.V k40 40 wc w.heap.size (fun k_ => some k_ ≠ (u18 : Value).ownBlock) u17 x17_1) ∧ Aside0 (Kd.R k40 40 wc w.heap.size (fun _ => True) u18 x18_1) ∧ Aside0 (Below w.heap.size w wc))
   case first =>
    have H := HC20.out
    clear HC20
    by_cases c21 : x19_1 ≤ (l3.length : Int)
    ·rw [if_pos c21] at H
     have c21b0 : decide (x19_1 ≤ (l3.length : Int)) = true := decide_eq_true c21
     clear c21
     (first | rw [c21b0] | (simp only [i64_w, i32_w]; rw [c21b0]) | skip)
     have H' := Aside0.mk H
     clear H
     go_wp2
     go_meet
     case rel => exact ⟨_, (decide (x19_1 < 12)), ez, H', ⟨by have := HK1.out; first | omega | exact Nat.le_refl _⟩, ⟨mV HO_17.out⟩, ⟨mR HO_18.out⟩, ⟨mB HB.out⟩⟩
    ·rw [if_neg c21] at H
     have c21b0 : decide (x19_1 ≤ (l3.length : Int)) = false := decide_eq_false c21
     clear c21
     (first | rw [c21b0] | (simp only [i64_w, i32_w]; rw [c21b0]) | skip)
     have H' := Aside0.mk H
     clear H
     go_wp2
     go_meet
     case rel => exact ⟨_, (false), ez, H', ⟨by have := HK1.out; first | omega | exact Nat.le_refl _⟩, ⟨mV HO_17.out⟩, ⟨mR HO_18.out⟩, ⟨mB HB.out⟩⟩
   case rest =>
    clear HC20
    (try clear c1); (try clear c2); (try clear p2); (try clear c3); (try clear c13); (try clear c14); (try clear c15); (try clear c16); (try clear c21); (try clear c21b0); (try clear p2)
    obtain ⟨kq, x46_19, rfl, HA, HJ19, HO_17, HO_18, HB⟩ := hcut
    cases kq with
    | zero => exact absurd HA.out (by simp [prebendlaw16_ProfilePlays.j1])
    | succ kj19 =>
     have H := HA.out
     clear HA
     simp only [prebendlaw16_ProfilePlays.j1] at H
     by_cases c22 : x46_19 = true
     ·subst c22
      have H1 : ((prebendref16_Held.f a5 1048576).bind fun t413 => ((prebendref16_Held.f a6 1125899906842624).bind fun t414 => ((profile_Fit.f kj19 x17_1 t413 t414).bind fun bt415 => ((prebendref16_Held.f a5 1048576).bind fun t417 => ((prebendref16_Held.f a6 1125899906842624).bind fun t418 => ((prebendref16_Fit.f kj19 x18_1 t417 t418).bind fun bt419 => ((prebendref16_Same.f kj19 x17_1 x18_1).bind fun t421 => (if t421 = true then (if bt415.1 = bt419.1 then (if (bt415.2 != bt419.2) = true then (prebendlaw16_ProfilePlays.j2 kj19 l3 a4 a5 a6 x17_1 x18_1 x19_1 true) else ((prebendref16_Held.f a4 1125899906842624).bind fun t422 => ((profile_At.f kj19 x17_1 t422).bind fun t423 => ((prebendref16_Held.f a4 1125899906842624).bind fun t424 => ((prebendref16_At.f kj19 x18_1 t424).bind fun t425 => (prebendlaw16_ProfilePlays.j2 kj19 l3 a4 a5 a6 x17_1 x18_1 x19_1 (t423 != t425))))))) else (prebendlaw16_ProfilePlays.j2 kj19 l3 a4 a5 a6 x17_1 x18_1 x19_1 true)) else (prebendlaw16_ProfilePlays.j2 kj19 l3 a4 a5 a6 x17_1 x18_1 x19_1 true))))))))) = some r := by rw [if_pos rfl] at H; exact H
      clear H
      have H := H1
      clear H1
      replace H := Option.bind_eq_some_iff.mp H
      obtain ⟨t413, A230, H⟩ := H
      replace H : ((prebendref16_Held.f a6 1125899906842624).bind fun t414 => ((profile_Fit.f kj19 x17_1 t413 t414).bind fun bt415 => ((prebendref16_Held.f a5 1048576).bind fun t417 => ((prebendref16_Held.f a6 1125899906842624).bind fun t418 => ((prebendref16_Fit.f kj19 x18_1 t417 t418).bind fun bt419 => ((prebendref16_Same.f kj19 x17_1 x18_1).bind fun t421 => (if t421 = true then (if bt415.1 = bt419.1 then (if (bt415.2 != bt419.2) = true then (prebendlaw16_ProfilePlays.j2 kj19 l3 a4 a5 a6 x17_1 x18_1 x19_1 true) else ((prebendref16_Held.f a4 1125899906842624).bind fun t422 => ((profile_At.f kj19 x17_1 t422).bind fun t423 => ((prebendref16_Held.f a4 1125899906842624).bind fun t424 => ((prebendref16_At.f kj19 x18_1 t424).bind fun t425 => (prebendlaw16_ProfilePlays.j2 kj19 l3 a4 a5 a6 x17_1 x18_1 x19_1 (t423 != t425))))))) else (prebendlaw16_ProfilePlays.j2 kj19 l3 a4 a5 a6 x17_1 x18_1 x19_1 true)) else (prebendlaw16_ProfilePlays.j2 kj19 l3 a4 a5 a6 x17_1 x18_1 x19_1 true)))))))) = some r := H
      have A23 := Aside0.mk A230
      clear A230
      replace H := Option.bind_eq_some_iff.mp H
      obtain ⟨t414, A240, H⟩ := H
      replace H : ((profile_Fit.f kj19 x17_1 t413 t414).bind fun bt415 => ((prebendref16_Held.f a5 1048576).bind fun t417 => ((prebendref16_Held.f a6 1125899906842624).bind fun t418 => ((prebendref16_Fit.f kj19 x18_1 t417 t418).bind fun bt419 => ((prebendref16_Same.f kj19 x17_1 x18_1).bind fun t421 => (if t421 = true then (if bt415.1 = bt419.1 then (if (bt415.2 != bt419.2) = true then (prebendlaw16_ProfilePlays.j2 kj19 l3 a4 a5 a6 x17_1 x18_1 x19_1 true) else ((prebendref16_Held.f a4 1125899906842624).bind fun t422 => ((profile_At.f kj19 x17_1 t422).bind fun t423 => ((prebendref16_Held.f a4 1125899906842624).bind fun t424 => ((prebendref16_At.f kj19 x18_1 t424).bind fun t425 => (prebendlaw16_ProfilePlays.j2 kj19 l3 a4 a5 a6 x17_1 x18_1 x19_1 (t423 != t425))))))) else (prebendlaw16_ProfilePlays.j2 kj19 l3 a4 a5 a6 x17_1 x18_1 x19_1 true)) else (prebendlaw16_ProfilePlays.j2 kj19 l3 a4 a5 a6 x17_1 x18_1 x19_1 true))))))) = some r := H
      have A24 := Aside0.mk A240
      clear A240
      replace H := Option.bind_eq_some_iff.mp H
      obtain ⟨⟨t415, t416⟩, A250, H⟩ := H
      replace H : ((prebendref16_Held.f a5 1048576).bind fun t417 => ((prebendref16_Held.f a6 1125899906842624).bind fun t418 => ((prebendref16_Fit.f kj19 x18_1 t417 t418).bind fun bt419 => ((prebendref16_Same.f kj19 x17_1 x18_1).bind fun t421 => (if t421 = true then (if t415 = bt419.1 then (if (t416 != bt419.2) = true then (prebendlaw16_ProfilePlays.j2 kj19 l3 a4 a5 a6 x17_1 x18_1 x19_1 true) else ((prebendref16_Held.f a4 1125899906842624).bind fun t422 => ((profile_At.f kj19 x17_1 t422).bind fun t423 => ((prebendref16_Held.f a4 1125899906842624).bind fun t424 => ((prebendref16_At.f kj19 x18_1 t424).bind fun t425 => (prebendlaw16_ProfilePlays.j2 kj19 l3 a4 a5 a6 x17_1 x18_1 x19_1 (t423 != t425))))))) else (prebendlaw16_ProfilePlays.j2 kj19 l3 a4 a5 a6 x17_1 x18_1 x19_1 true)) else (prebendlaw16_ProfilePlays.j2 kj19 l3 a4 a5 a6 x17_1 x18_1 x19_1 true)))))) = some r := H
      have A25 := Aside0.mk A250
      clear A250
      replace H := Option.bind_eq_some_iff.mp H
      obtain ⟨t417, A260, H⟩ := H
      replace H : ((prebendref16_Held.f a6 1125899906842624).bind fun t418 => ((prebendref16_Fit.f kj19 x18_1 t417 t418).bind fun bt419 => ((prebendref16_Same.f kj19 x17_1 x18_1).bind fun t421 => (if t421 = true then (if t415 = bt419.1 then (if (t416 != bt419.2) = true then (prebendlaw16_ProfilePlays.j2 kj19 l3 a4 a5 a6 x17_1 x18_1 x19_1 true) else ((prebendref16_Held.f a4 1125899906842624).bind fun t422 => ((profile_At.f kj19 x17_1 t422).bind fun t423 => ((prebendref16_Held.f a4 1125899906842624).bind fun t424 => ((prebendref16_At.f kj19 x18_1 t424).bind fun t425 => (prebendlaw16_ProfilePlays.j2 kj19 l3 a4 a5 a6 x17_1 x18_1 x19_1 (t423 != t425))))))) else (prebendlaw16_ProfilePlays.j2 kj19 l3 a4 a5 a6 x17_1 x18_1 x19_1 true)) else (prebendlaw16_ProfilePlays.j2 kj19 l3 a4 a5 a6 x17_1 x18_1 x19_1 true))))) = some r := H
      have A26 := Aside0.mk A260
      clear A260
      replace H := Option.bind_eq_some_iff.mp H
      obtain ⟨t418, A270, H⟩ := H
      replace H : ((prebendref16_Fit.f kj19 x18_1 t417 t418).bind fun bt419 => ((prebendref16_Same.f kj19 x17_1 x18_1).bind fun t421 => (if t421 = true then (if t415 = bt419.1 then (if (t416 != bt419.2) = true then (prebendlaw16_ProfilePlays.j2 kj19 l3 a4 a5 a6 x17_1 x18_1 x19_1 true) else ((prebendref16_Held.f a4 1125899906842624).bind fun t422 => ((profile_At.f kj19 x17_1 t422).bind fun t423 => ((prebendref16_Held.f a4 1125899906842624).bind fun t424 => ((prebendref16_At.f kj19 x18_1 t424).bind fun t425 => (prebendlaw16_ProfilePlays.j2 kj19 l3 a4 a5 a6 x17_1 x18_1 x19_1 (t423 != t425))))))) else (prebendlaw16_ProfilePlays.j2 kj19 l3 a4 a5 a6 x17_1 x18_1 x19_1 true)) else (prebendlaw16_ProfilePlays.j2 kj19 l3 a4 a5 a6 x17_1 x18_1 x19_1 true)))) = some r := H
      have A27 := Aside0.mk A270
      clear A270
      replace H := Option.bind_eq_some_iff.mp H
      obtain ⟨⟨t419, t420⟩, A280, H⟩ := H
      replace H : ((prebendref16_Same.f kj19 x17_1 x18_1).bind fun t421 => (if t421 = true then (if t415 = t419 then (if (t416 != t420) = true then (prebendlaw16_ProfilePlays.j2 kj19 l3 a4 a5 a6 x17_1 x18_1 x19_1 true) else ((prebendref16_Held.f a4 1125899906842624).bind fun t422 => ((profile_At.f kj19 x17_1 t422).bind fun t423 => ((prebendref16_Held.f a4 1125899906842624).bind fun t424 => ((prebendref16_At.f kj19 x18_1 t424).bind fun t425 => (prebendlaw16_ProfilePlays.j2 kj19 l3 a4 a5 a6 x17_1 x18_1 x19_1 (t423 != t425))))))) else (prebendlaw16_ProfilePlays.j2 kj19 l3 a4 a5 a6 x17_1 x18_1 x19_1 true)) else (prebendlaw16_ProfilePlays.j2 kj19 l3 a4 a5 a6 x17_1 x18_1 x19_1 true))) = some r := H
      have A28 := Aside0.mk A280
      clear A280
      have HC29 := Aside0.mk H
      clear H
      go_upto_region 8 with (first | ((with_reducible refine gate_callee (f := 13) rfl ?_); refine goesL_ (some 52) rfl rfl Try.func13 (by kernel_rfl) rfl #[.int .i64 a5, .int .i64 1048576] rfl mt ?_; (with_reducible refine (prebendref16_Held.calls a5 1048576 t413 _ A23.out).mono ?_); rintro e w' ⟨rfl, ⟨nd, rfl⟩⟩; refine ⟨_, rfl, ?_⟩) | ((with_reducible refine gate_callee (f := 13) rfl ?_); refine goesL_ (some 54) rfl rfl Try.func13 (by kernel_rfl) rfl #[.int .i64 a6, .int .i64 1125899906842624] rfl mt ?_; (with_reducible refine (prebendref16_Held.calls a6 1125899906842624 t414 _ A24.out).mono ?_); rintro e w' ⟨rfl, ⟨nd, rfl⟩⟩; refine ⟨_, rfl, ?_⟩; obtain ⟨Ao30, co30, eo30⟩ := Kd.V_slice HO_17.out; subst eo30) | ((with_reducible refine gate_callee (f := 17) rfl ?_); refine goesL_ (some 55) rfl rfl Try.func17 (by kernel_rfl) rfl #[.slice Ao30 x17_1.length co30, .int .i64 t413, .int .i64 t414] rfl mt ?_; (with_reducible refine (profile_Fit.calls kj19 _ _ x17_1 t413 t414 t415 t416 _ ?side1 ?side2 A25.out).mono ?_); (case side1 => exact mC (Kd.V_reads' HO_17.out).2.2); (case side2 => exact (Kd.V_reads' HO_17.out).2.1); rintro e w31 ⟨rfl, hb⟩; refine ⟨_, rfl, ?_⟩; have n0_ := Aside0.mk (Kd.V_below (mV HO_17.out) hb); have n1_ := Aside0.mk (Kd.R_below (mR HO_18.out) hb); have n2_ := Aside0.mk (below_step (mB HB.out) hb); clear HO_17; clear HO_18; clear HB; have HO_17 := n0_; have HO_18 := n1_; have HB := n2_; clear n0_ n1_ n2_; (try clear hb); (try clear hb2); (try clear hk); (try clear hi)) | ((with_reducible refine gate_callee (f := 13) rfl ?_); refine goesL_ (some 61) rfl rfl Try.func13 (by kernel_rfl) rfl #[.int .i64 a5, .int .i64 1048576] rfl mt ?_; (with_reducible refine (prebendref16_Held.calls a5 1048576 t417 _ A26.out).mono ?_); rintro e w' ⟨rfl, ⟨nd, rfl⟩⟩; refine ⟨_, rfl, ?_⟩) | ((with_reducible refine gate_callee (f := 13) rfl ?_); refine goesL_ (some 63) rfl rfl Try.func13 (by kernel_rfl) rfl #[.int .i64 a6, .int .i64 1125899906842624] rfl mt ?_; (with_reducible refine (prebendref16_Held.calls a6 1125899906842624 t418 _ A27.out).mono ?_); rintro e w' ⟨rfl, ⟨nd, rfl⟩⟩; refine ⟨_, rfl, ?_⟩; obtain ⟨Ao32, co32, eo32⟩ := Kd.R_slice HO_18.out; subst eo32) | ((with_reducible refine gate_callee (f := 18) rfl ?_); refine goesL_ (some 64) rfl rfl Try.func18 (by kernel_rfl) rfl #[.slice Ao32 x18_1.length co32, .int .i64 t417, .int .i64 t418] rfl mt ?_; (with_reducible refine (prebendref16_Fit.calls kj19 _ _ x18_1 t417 t418 t419 t420 _ ?side1 ?side2 A28.out).mono ?_); (case side1 => exact mC (Kd.R_reads' HO_18.out).2.2); (case side2 => exact (Kd.R_reads' HO_18.out).2.1); rintro e w' ⟨rfl, ⟨nd, rfl⟩⟩; refine ⟨_, rfl, ?_⟩))
      (try simp only [Act.put, List.setIfInBounds_toArray, List.set_cons_zero, List.set_cons_succ])
      go_cut [91] (fun v91 wc => ∃ (kq : Nat) (x91_28 : Bool), v91 = .bool x91_28 ∧ Aside0 (prebendlaw16_ProfilePlays.j2 kq l3 a4 a5 a6 x17_1 x18_1 x19_1 x91_28 = some r) ∧ Aside0 (kq ≤ kj19) ∧ Aside0 (Kd.V k40 40 wc w.heap.size (fun k_ => some k_ ≠ ((.slice Ao32 x18_1.length co32) : Value).ownBlock) (.slice Ao30 x17_1.length co30) x17_1) ∧ Aside0 (Kd.R k40 40 wc w.heap.size (fun _ => True) (.slice Ao32 x18_1.length co32) x18_1) ∧ Aside0 (Below w.heap.size w wc))
      case first =>
       have H := HC29.out
       clear HC29
       replace H := Option.bind_eq_some_iff.mp H
       obtain ⟨t421, A330, H⟩ := H
       replace H : (if t421 = true then (if t415 = t419 then (if (t416 != t420) = true then (prebendlaw16_ProfilePlays.j2 kj19 l3 a4 a5 a6 x17_1 x18_1 x19_1 true) else ((prebendref16_Held.f a4 1125899906842624).bind fun t422 => ((profile_At.f kj19 x17_1 t422).bind fun t423 => ((prebendref16_Held.f a4 1125899906842624).bind fun t424 => ((prebendref16_At.f kj19 x18_1 t424).bind fun t425 => (prebendlaw16_ProfilePlays.j2 kj19 l3 a4 a5 a6 x17_1 x18_1 x19_1 (t423 != t425))))))) else (prebendlaw16_ProfilePlays.j2 kj19 l3 a4 a5 a6 x17_1 x18_1 x19_1 true)) else (prebendlaw16_ProfilePlays.j2 kj19 l3 a4 a5 a6 x17_1 x18_1 x19_1 true)) = some r := H
       have A33 := Aside0.mk A330
       clear A330
       by_cases c34 : t421 = true
       ·subst c34
        have H1 : (if t415 = t419 then (if (t416 != t420) = true then (prebendlaw16_ProfilePlays.j2 kj19 l3 a4 a5 a6 x17_1 x18_1 x19_1 true) else ((prebendref16_Held.f a4 1125899906842624).bind fun t422 => ((profile_At.f kj19 x17_1 t422).bind fun t423 => ((prebendref16_Held.f a4 1125899906842624).bind fun t424 => ((prebendref16_At.f kj19 x18_1 t424).bind fun t425 => (prebendlaw16_ProfilePlays.j2 kj19 l3 a4 a5 a6 x17_1 x18_1 x19_1 (t423 != t425))))))) else (prebendlaw16_ProfilePlays.j2 kj19 l3 a4 a5 a6 x17_1 x18_1 x19_1 true)) = some r := by rw [if_pos rfl] at H; exact H
        clear H
        have H := H1
        clear H1
        by_cases c35 : t415 = t419
        ·rw [if_pos c35] at H
         have c35b0 : (t415 == t419) = true := beq_iff_eq.mpr c35
         have c35b1 : (t415 != t419) = false := bne_eq_false_iff_eq.mpr c35
         clear c35
         (first | rw [c35b0] | (simp only [i64_w, i32_w]; rw [c35b0]) | skip)
         by_cases c36 : (t416 != t420) = true
         ·rw [if_pos c36] at H
          have c36b0 : (t416 != t420) = true := c36
          (try (have c36b1 : decide (t416 = t420) = false := by simpa using c36))
          (try (have c36b2 : (t416 == t420) = false := by simpa using c36))
          (try (have c36b3 : ¬ (t416 = t420) := by simpa using c36))
          clear c36
          have H' := Aside0.mk H
          clear H
          go_wp2_with (first | ((with_reducible refine gate_callee (f := 19) rfl ?_); refine goesL_ (some 69) rfl rfl Try.func19 (by kernel_rfl) rfl #[.slice Ao30 x17_1.length co30, .slice Ao32 x18_1.length co32] rfl mt ?_; (with_reducible refine (prebendref16_Same.calls kj19 _ _ x17_1 _ _ x18_1 true _ ?side1 ?side2 ?side3 ?side4 A33.out).mono ?_); (case side1 => exact mC (Kd.V_reads' HO_17.out).2.2); (case side2 => exact (Kd.V_reads' HO_17.out).2.1); (case side3 => exact mC (Kd.R_reads' HO_18.out).2.2); (case side4 => exact (Kd.R_reads' HO_18.out).2.1); rintro e w' ⟨rfl, ⟨nd, rfl⟩⟩; refine ⟨_, rfl, ?_⟩))
          go_meet
          case rel => exact ⟨_, (true), ez, H', ⟨by have := HK1.out; have := HJ19.out; first | omega | exact Nat.le_refl _⟩, ⟨mV HO_17.out⟩, ⟨mR HO_18.out⟩, ⟨mB HB.out⟩⟩
         ·rw [if_neg c36] at H
          have c36b0 : (t416 != t420) = false := by simpa using c36
          (try (have c36b1 : decide (t416 = t420) = true := by simpa using c36))
          (try (have c36b2 : (t416 == t420) = true := by simpa using c36))
          clear c36
          replace H := Option.bind_eq_some_iff.mp H
          obtain ⟨t422, A370, H⟩ := H
          replace H : ((profile_At.f kj19 x17_1 t422).bind fun t423 => ((prebendref16_Held.f a4 1125899906842624).bind fun t424 => ((prebendref16_At.f kj19 x18_1 t424).bind fun t425 => (prebendlaw16_ProfilePlays.j2 kj19 l3 a4 a5 a6 x17_1 x18_1 x19_1 (t423 != t425))))) = some r := H
          have A37 := Aside0.mk A370
          clear A370
          replace H := Option.bind_eq_some_iff.mp H
          obtain ⟨t423, A380, H⟩ := H
          replace H : ((prebendref16_Held.f a4 1125899906842624).bind fun t424 => ((prebendref16_At.f kj19 x18_1 t424).bind fun t425 => (prebendlaw16_ProfilePlays.j2 kj19 l3 a4 a5 a6 x17_1 x18_1 x19_1 (t423 != t425)))) = some r := H
          have A38 := Aside0.mk A380
          clear A380
          replace H := Option.bind_eq_some_iff.mp H
          obtain ⟨t424, A390, H⟩ := H
          replace H : ((prebendref16_At.f kj19 x18_1 t424).bind fun t425 => (prebendlaw16_ProfilePlays.j2 kj19 l3 a4 a5 a6 x17_1 x18_1 x19_1 (t423 != t425))) = some r := H
          have A39 := Aside0.mk A390
          clear A390
          replace H := Option.bind_eq_some_iff.mp H
          obtain ⟨t425, A400, H⟩ := H
          replace H : (prebendlaw16_ProfilePlays.j2 kj19 l3 a4 a5 a6 x17_1 x18_1 x19_1 (t423 != t425)) = some r := H
          have A40 := Aside0.mk A400
          clear A400
          have H' := Aside0.mk H
          clear H
          obtain rfl : t422 = t424 := Option.some.inj (A37.out.symm.trans A39.out)
          go_wp2_with (first | ((with_reducible refine gate_callee (f := 19) rfl ?_); refine goesL_ (some 69) rfl rfl Try.func19 (by kernel_rfl) rfl #[.slice Ao30 x17_1.length co30, .slice Ao32 x18_1.length co32] rfl mt ?_; (with_reducible refine (prebendref16_Same.calls kj19 _ _ x17_1 _ _ x18_1 true _ ?side1 ?side2 ?side3 ?side4 A33.out).mono ?_); (case side1 => exact mC (Kd.V_reads' HO_17.out).2.2); (case side2 => exact (Kd.V_reads' HO_17.out).2.1); (case side3 => exact mC (Kd.R_reads' HO_18.out).2.2); (case side4 => exact (Kd.R_reads' HO_18.out).2.1); rintro e w' ⟨rfl, ⟨nd, rfl⟩⟩; refine ⟨_, rfl, ?_⟩) | (go_at_call 13; (with_reducible refine (prebendref16_Held.calls a4 1125899906842624 t422 _ A37.out).mono ?_); rintro e w' ⟨rfl, ⟨nd, rfl⟩⟩) | (go_at_call 20; (with_reducible refine (profile_At.calls kj19 _ _ x17_1 t422 t423 _ ?side1 ?side2 A38.out).mono ?_); (case side1 => exact mC (Kd.V_reads' HO_17.out).2.2); (case side2 => exact (Kd.V_reads' HO_17.out).2.1); rintro e w41 ⟨rfl, hb⟩; have n0_ := Aside0.mk (Kd.V_below (mV HO_17.out) hb); have n1_ := Aside0.mk (Kd.R_below (mR HO_18.out) hb); have n2_ := Aside0.mk (below_step (mB HB.out) hb); clear HO_17; clear HO_18; clear HB; have HO_17 := n0_; have HO_18 := n1_; have HB := n2_; clear n0_ n1_ n2_; (try clear hb); (try clear hb2); (try clear hk); (try clear hi)) | (go_at_call 13; (with_reducible refine (prebendref16_Held.calls a4 1125899906842624 t422 _ A39.out).mono ?_); rintro e w' ⟨rfl, ⟨nd, rfl⟩⟩) | (go_at_call 21; (with_reducible refine (prebendref16_At.calls kj19 _ _ x18_1 t422 t425 _ ?side1 ?side2 A40.out).mono ?_); (case side1 => exact mC (Kd.R_reads' HO_18.out).2.2); (case side2 => exact (Kd.R_reads' HO_18.out).2.1); rintro e w' ⟨rfl, ⟨nd, rfl⟩⟩))
          go_meet
          case rel => exact ⟨_, ((t423 != t425)), ez, H', ⟨by have := HK1.out; have := HJ19.out; first | omega | exact Nat.le_refl _⟩, ⟨mV HO_17.out⟩, ⟨mR HO_18.out⟩, ⟨mB HB.out⟩⟩
        ·rw [if_neg c35] at H
         have c35b0 : (t415 == t419) = false := beq_eq_false_iff_ne.mpr c35
         have c35b1 : (t415 != t419) = true := bne_iff_ne.mpr c35
         (first | rw [c35b0] | (simp only [i64_w, i32_w]; rw [c35b0]) | skip)
         have H' := Aside0.mk H
         clear H
         go_wp2_with (first | ((with_reducible refine gate_callee (f := 19) rfl ?_); refine goesL_ (some 69) rfl rfl Try.func19 (by kernel_rfl) rfl #[.slice Ao30 x17_1.length co30, .slice Ao32 x18_1.length co32] rfl mt ?_; (with_reducible refine (prebendref16_Same.calls kj19 _ _ x17_1 _ _ x18_1 true _ ?side1 ?side2 ?side3 ?side4 A33.out).mono ?_); (case side1 => exact mC (Kd.V_reads' HO_17.out).2.2); (case side2 => exact (Kd.V_reads' HO_17.out).2.1); (case side3 => exact mC (Kd.R_reads' HO_18.out).2.2); (case side4 => exact (Kd.R_reads' HO_18.out).2.1); rintro e w' ⟨rfl, ⟨nd, rfl⟩⟩; refine ⟨_, rfl, ?_⟩))
         go_meet
         case rel => exact ⟨_, (true), ez, H', ⟨by have := HK1.out; have := HJ19.out; first | omega | exact Nat.le_refl _⟩, ⟨mV HO_17.out⟩, ⟨mR HO_18.out⟩, ⟨mB HB.out⟩⟩
       ·replace c34 := Bool.eq_false_iff.mpr c34
        subst c34
        have H1 : (prebendlaw16_ProfilePlays.j2 kj19 l3 a4 a5 a6 x17_1 x18_1 x19_1 true) = some r := by rw [if_neg (show ¬ (false = true) by decide)] at H; exact H
        clear H
        have H := H1
        clear H1
        have H' := Aside0.mk H
        clear H
        go_wp2_with (first | ((with_reducible refine gate_callee (f := 19) rfl ?_); refine goesL_ (some 69) rfl rfl Try.func19 (by kernel_rfl) rfl #[.slice Ao30 x17_1.length co30, .slice Ao32 x18_1.length co32] rfl mt ?_; (with_reducible refine (prebendref16_Same.calls kj19 _ _ x17_1 _ _ x18_1 false _ ?side1 ?side2 ?side3 ?side4 A33.out).mono ?_); (case side1 => exact mC (Kd.V_reads' HO_17.out).2.2); (case side2 => exact (Kd.V_reads' HO_17.out).2.1); (case side3 => exact mC (Kd.R_reads' HO_18.out).2.2); (case side4 => exact (Kd.R_reads' HO_18.out).2.1); rintro e w' ⟨rfl, ⟨nd, rfl⟩⟩; refine ⟨_, rfl, ?_⟩))
        go_meet
        case rel => exact ⟨_, (true), ez, H', ⟨by have := HK1.out; have := HJ19.out; first | omega | exact Nat.le_refl _⟩, ⟨mV HO_17.out⟩, ⟨mR HO_18.out⟩, ⟨mB HB.out⟩⟩
      case rest =>
       clear HC29
       (try clear c1); (try clear c2); (try clear p2); (try clear c3); (try clear c13); (try clear c14); (try clear c15); (try clear c16); (try clear c17); (try clear c18); (try clear c19); (try clear c21); (try clear c21b0); (try clear c22); (try clear c34); (try clear c35); (try clear c35b0); (try clear c35b1); (try clear c36); (try clear c36b0); (try clear c36b1); (try clear c36b2); (try clear p2)
       obtain ⟨kq, x91_28, rfl, HA, HJ28, HO_17, HO_18, HB⟩ := hcut
       cases kq with
       | zero => exact absurd HA.out (by simp [prebendlaw16_ProfilePlays.j2])
       | succ kj28 =>
        have H := HA.out
        clear HA
        simp only [prebendlaw16_ProfilePlays.j2] at H
        by_cases c42 : x91_28 = true
        ·subst c42
         have H1 : (some false) = some r := by rw [if_pos rfl] at H; exact H
         clear H
         have H := H1
         clear H1
         obtain rfl := Option.some.inj H
         go_wp2
         go_ret
         exact ⟨by first | rfl | (simp [errW_none, errW_some] <;> rfl) | (simp [*, errW_none, errW_some] <;> rfl), by repeat (first | (with_reducible first | exact HB.out | apply below_alloc | apply pw_below_drewN | apply below_drew1) | exact HB.out)⟩
        ·replace c42 := Bool.eq_false_iff.mpr c42
         subst c42
         have H1 : (if x19_1 < (l3.length : Int) then (if 0 ≤ x19_1 then ((prebendref16_Held.f ((rd_T33 l3 x19_1).f0) 562949953421312).bind fun t427 => ((prebendref16_Held.f ((rd_T33 l3 x19_1).f1) 562949953421312).bind fun t429 => ((prebendref16_Held.f ((rd_T33 l3 x19_1).f2) 1048576).bind fun t431 => ((profile_Take.f kj28 x17_1 t427 t429 t431).bind fun t433 => ((prebendref16_Take.f kj28 x18_1 t427 t429 t431).bind fun t436 => (prebendlaw16_ProfilePlays.l0 kj28 l3 a4 a5 a6 t433 t436 (wrap64 (x19_1 + 1)))))))) else (none)) else (prebendlaw16_ProfilePlays.l0 kj28 l3 a4 a5 a6 x17_1 x18_1 (wrap64 (x19_1 + 1)))) = some r := by rw [if_neg (show ¬ (false = true) by decide)] at H; exact H
         clear H
         have H := H1
         clear H1
         by_cases c43 : x19_1 < (l3.length : Int)
         ·rw [if_pos c43] at H
          have c43b0 : decide (x19_1 < (l3.length : Int)) = true := decide_eq_true c43
          clear c43
          by_cases c44 : 0 ≤ x19_1
          ·rw [if_pos c44] at H
           have c44b0 : decide (0 ≤ x19_1) = true := decide_eq_true c44
           clear c44
           replace H := Option.bind_eq_some_iff.mp H
           obtain ⟨t427, A450, H⟩ := H
           replace H : ((prebendref16_Held.f ((rd_T33 l3 x19_1).f1) 562949953421312).bind fun t429 => ((prebendref16_Held.f ((rd_T33 l3 x19_1).f2) 1048576).bind fun t431 => ((profile_Take.f kj28 x17_1 t427 t429 t431).bind fun t433 => ((prebendref16_Take.f kj28 x18_1 t427 t429 t431).bind fun t436 => (prebendlaw16_ProfilePlays.l0 kj28 l3 a4 a5 a6 t433 t436 (wrap64 (x19_1 + 1))))))) = some r := H
           have A45 := Aside0.mk A450
           clear A450
           replace H := Option.bind_eq_some_iff.mp H
           obtain ⟨t429, A460, H⟩ := H
           replace H : ((prebendref16_Held.f ((rd_T33 l3 x19_1).f2) 1048576).bind fun t431 => ((profile_Take.f kj28 x17_1 t427 t429 t431).bind fun t433 => ((prebendref16_Take.f kj28 x18_1 t427 t429 t431).bind fun t436 => (prebendlaw16_ProfilePlays.l0 kj28 l3 a4 a5 a6 t433 t436 (wrap64 (x19_1 + 1)))))) = some r := H
           have A46 := Aside0.mk A460
           clear A460
           replace H := Option.bind_eq_some_iff.mp H
           obtain ⟨t431, A470, H⟩ := H
           replace H : ((profile_Take.f kj28 x17_1 t427 t429 t431).bind fun t433 => ((prebendref16_Take.f kj28 x18_1 t427 t429 t431).bind fun t436 => (prebendlaw16_ProfilePlays.l0 kj28 l3 a4 a5 a6 t433 t436 (wrap64 (x19_1 + 1))))) = some r := H
           have A47 := Aside0.mk A470
           clear A470
           replace H := Option.bind_eq_some_iff.mp H
           obtain ⟨t433, A480, H⟩ := H
           replace H : ((prebendref16_Take.f kj28 x18_1 t427 t429 t431).bind fun t436 => (prebendlaw16_ProfilePlays.l0 kj28 l3 a4 a5 a6 t433 t436 (wrap64 (x19_1 + 1)))) = some r := H
           have A48 := Aside0.mk A480
           clear A480
           replace H := Option.bind_eq_some_iff.mp H
           obtain ⟨t436, A490, H⟩ := H
           replace H : (prebendlaw16_ProfilePlays.l0 kj28 l3 a4 a5 a6 t433 t436 (wrap64 (x19_1 + 1))) = some r := H
           have A49 := Aside0.mk A490
           clear A490
           have H' := Aside0.mk H
           clear H
           try go_wp2
           have n0_ := Aside0.mk (Kd.V_drew HO_17.out)
           have n1_ := Aside0.mk (Kd.R_drew HO_18.out)
           have n2_ := Aside0.mk (below_drew1 HB.out)
           clear HO_17; clear HO_18; clear HB
           have HO_17 := n0_
           have HO_18 := n1_
           have HB := n2_
           clear n0_; clear n1_; clear n2_
           have p426 : 0 ≤ (x19_1 : Int) := oda
           have q426 : x19_1 < (l3.length : Int) := oda
           obtain ⟨ad426, e426, hx426_0, hx426_1, hx426_2⟩ := at_T33 HR3.out x19_1 p426 q426
           have hw426_2 := hx426_2
           have hw426_1 := hx426_1
           have hw426_0 := hx426_0
           cases e426
           replace hx426_0 := (HB.out.cell (World.block_lt_of_cell? w _ hx426_0)).trans hx426_0
           replace hx426_1 := (HB.out.cell (World.block_lt_of_cell? w _ hx426_1)).trans hx426_1
           replace hx426_2 := (HB.out.cell (World.block_lt_of_cell? w _ hx426_2)).trans hx426_2
           replace p426 := eq_true p426
           replace q426 := eq_true q426
           have p428 : 0 ≤ (x19_1 : Int) := oda
           have q428 : x19_1 < (l3.length : Int) := oda
           obtain ⟨ad428, e428, hx428_0, hx428_1, hx428_2⟩ := at_T33 HR3.out x19_1 p428 q428
           have hw428_2 := hx428_2
           have hw428_1 := hx428_1
           have hw428_0 := hx428_0
           obtain rfl : ad426 = ad428 := (by injection e428)
           replace hx428_0 := (HB.out.cell (World.block_lt_of_cell? w _ hx428_0)).trans hx428_0
           replace hx428_1 := (HB.out.cell (World.block_lt_of_cell? w _ hx428_1)).trans hx428_1
           replace hx428_2 := (HB.out.cell (World.block_lt_of_cell? w _ hx428_2)).trans hx428_2
           replace p428 := eq_true p428
           replace q428 := eq_true q428
           have p430 : 0 ≤ (x19_1 : Int) := oda
           have q430 : x19_1 < (l3.length : Int) := oda
           obtain ⟨ad430, e430, hx430_0, hx430_1, hx430_2⟩ := at_T33 HR3.out x19_1 p430 q430
           have hw430_2 := hx430_2
           have hw430_1 := hx430_1
           have hw430_0 := hx430_0
           obtain rfl : ad426 = ad430 := (by injection e430)
           replace hx430_0 := (HB.out.cell (World.block_lt_of_cell? w _ hx430_0)).trans hx430_0
           replace hx430_1 := (HB.out.cell (World.block_lt_of_cell? w _ hx430_1)).trans hx430_1
           replace hx430_2 := (HB.out.cell (World.block_lt_of_cell? w _ hx430_2)).trans hx430_2
           replace p430 := eq_true p430
           replace q430 := eq_true q430
           refine start_ (n := 21) (S := fun w' => w'.cell? (ad426.add ((x19_1).toNat * 3)) = some (.int .i64 ((rd_T33 l3 x19_1).f0)) ∧ w'.cell? ⟨(ad426.add ((x19_1).toNat * 3)).block, (ad426.add ((x19_1).toNat * 3)).off + 1, none⟩ = some (.int .i64 ((rd_T33 l3 x19_1).f1)) ∧ w'.cell? ⟨(ad426.add ((x19_1).toNat * 3)).block, (ad426.add ((x19_1).toNat * 3)).off + 2, none⟩ = some (.int .i64 ((rd_T33 l3 x19_1).f2)) ∧ w'.cell? (ad426.add ((x19_1).toNat * 3)) = some (.int .i64 ((rd_T33 l3 x19_1).f0)) ∧ w'.cell? ⟨(ad426.add ((x19_1).toNat * 3)).block, (ad426.add ((x19_1).toNat * 3)).off + 1, none⟩ = some (.int .i64 ((rd_T33 l3 x19_1).f1)) ∧ w'.cell? ⟨(ad426.add ((x19_1).toNat * 3)).block, (ad426.add ((x19_1).toNat * 3)).off + 2, none⟩ = some (.int .i64 ((rd_T33 l3 x19_1).f2)) ∧ w'.cell? (ad426.add ((x19_1).toNat * 3)) = some (.int .i64 ((rd_T33 l3 x19_1).f0)) ∧ w'.cell? ⟨(ad426.add ((x19_1).toNat * 3)).block, (ad426.add ((x19_1).toNat * 3)).off + 1, none⟩ = some (.int .i64 ((rd_T33 l3 x19_1).f1)) ∧ w'.cell? ⟨(ad426.add ((x19_1).toNat * 3)).block, (ad426.add ((x19_1).toNat * 3)).off + 2, none⟩ = some (.int .i64 ((rd_T33 l3 x19_1).f2))) (ds := []) #[false, false, false, false, false, false, false, false, false, false, false, false, false, false, false, false, false, false, false, false, false] (by kernel_rfl) rfl rfl ⟨((HB.out.cell (World.block_lt_of_cell? w _ hw426_0)).trans hw426_0), ((HB.out.cell (World.block_lt_of_cell? w _ hw426_1)).trans hw426_1), ((HB.out.cell (World.block_lt_of_cell? w _ hw426_2)).trans hw426_2), ((HB.out.cell (World.block_lt_of_cell? w _ hw428_0)).trans hw428_0), ((HB.out.cell (World.block_lt_of_cell? w _ hw428_1)).trans hw428_1), ((HB.out.cell (World.block_lt_of_cell? w _ hw428_2)).trans hw428_2), ((HB.out.cell (World.block_lt_of_cell? w _ hw430_0)).trans hw430_0), ((HB.out.cell (World.block_lt_of_cell? w _ hw430_1)).trans hw430_1), ((HB.out.cell (World.block_lt_of_cell? w _ hw430_2)).trans hw430_2)⟩ (fun hHeld => ?_); refine with_tabW prebendlaw16_ProfilePlays.tab11 prebendlaw16_ProfilePlays.bits11 (fun HT_ HW_ => ?_)
           generalize wc.drew = w50 at HO_17 HO_18 HB hx426_0 hx426_1 hx426_2 hx428_0 hx428_1 hx428_2 hx430_0 hx430_1 hx430_2 hHeld ⊢
           refine plan_ [(0, 96), (1, 97), (2, 98), (3, 99), (6, 102), (7, 103), (8, 104), (9, 105), (12, 108), (13, 109), (14, 110), (15, 111)] ?_
           iterate 12 (refine planP_ (v := ?_) (a' := ?_) rfl rfl (any_of HT_.out (by kernel_rfl)) (fun _ _ _ h => h) (Or.inl ⟨by rfl, ?_⟩) ?_ ?_; rotate_left; (intro w'; go_simp; with_reducible rfl); rotate_left; (simp only [Act.put, List.setIfInBounds_toArray, List.set_cons_zero, List.set_cons_succ, i64_w, i32_w]; rfl))
           refine planEnd_ ?_
           refine plan_ [(4, 100), (10, 106), (16, 112)] ?_
           iterate 3 (refine planT_ (v := ?_) (a' := ?_) rfl rfl (take_ofW HT_.out HW_.out (by kernel_rfl)) (fun _ _ _ h => h) (Or.inl ⟨by rfl, ?_⟩) hHeld ?_ ?_; rotate_left; (rintro w' ⟨s0, s1, s2, s3, s4, s5, s6, s7, s8⟩; go_simp; with_reducible rfl); rotate_left; (simp only [Act.put, List.setIfInBounds_toArray, List.set_cons_zero, List.set_cons_succ, i64_w, i32_w]; rfl))
           refine planEnd_ ?_
           refine join_ (σ := Nat) 1 #[true, true, true, true, true, true, true, true, true, true, true, true, true, true, true, true, true, true, true, true, false] (fun s_ => [(101, .int .i64 t427), (107, .int .i64 t429), (113, .int .i64 t431), (24, .pointer (some ⟨s_, 0, none⟩)), (114, .agg #[.int .i64 t427, .int .i64 t429, .int .i64 t431])]) (fun s_ w' => (w'.cell? (ad426.add ((x19_1).toNat * 3)) = some (.int .i64 ((rd_T33 l3 x19_1).f0)) ∧ w'.cell? ⟨(ad426.add ((x19_1).toNat * 3)).block, (ad426.add ((x19_1).toNat * 3)).off + 1, none⟩ = some (.int .i64 ((rd_T33 l3 x19_1).f1)) ∧ w'.cell? ⟨(ad426.add ((x19_1).toNat * 3)).block, (ad426.add ((x19_1).toNat * 3)).off + 2, none⟩ = some (.int .i64 ((rd_T33 l3 x19_1).f2)) ∧ w'.cell? (ad426.add ((x19_1).toNat * 3)) = some (.int .i64 ((rd_T33 l3 x19_1).f0)) ∧ w'.cell? ⟨(ad426.add ((x19_1).toNat * 3)).block, (ad426.add ((x19_1).toNat * 3)).off + 1, none⟩ = some (.int .i64 ((rd_T33 l3 x19_1).f1)) ∧ w'.cell? ⟨(ad426.add ((x19_1).toNat * 3)).block, (ad426.add ((x19_1).toNat * 3)).off + 2, none⟩ = some (.int .i64 ((rd_T33 l3 x19_1).f2)) ∧ w'.cell? (ad426.add ((x19_1).toNat * 3)) = some (.int .i64 ((rd_T33 l3 x19_1).f0)) ∧ w'.cell? ⟨(ad426.add ((x19_1).toNat * 3)).block, (ad426.add ((x19_1).toNat * 3)).off + 1, none⟩ = some (.int .i64 ((rd_T33 l3 x19_1).f1)) ∧ w'.cell? ⟨(ad426.add ((x19_1).toNat * 3)).block, (ad426.add ((x19_1).toNat * 3)).off + 2, none⟩ = some (.int .i64 ((rd_T33 l3 x19_1).f2))) ∧ (Kd.V k40 40 w' w.heap.size (fun k_ => some k_ ≠ (.slice Ao32 x18_1.length co32 : Value).ownBlock ∧ k_ ≠ s_) (.slice Ao30 x17_1.length co30) x17_1) ∧ (Kd.R k40 40 w' w.heap.size (fun _ => True) (.slice Ao32 x18_1.length co32) x18_1) ∧ (w'.heap[s_]? = some (.cells #[.int .i64 0, .int .i64 0, .int .i64 0] 33 (0, 0))) ∧ (w.heap.size ≤ s_) ∧ (w.heap.size ≤ s_) ∧ (Below w.heap.size w w')) ?_ ?_
           rotate_left
           ·intro hCont
            refine two_ (i := 5) (j := 19) (Ni := some 101) (Nj := some 24) #[true, true, true, true, true, true, true, true, true, true, true, false, true, true, true, true, true, false, false, false, false] #[true, true, true, true, true, false, true, true, true, true, true, false, true, true, true, true, true, false, false, true, false] rfl rfl rfl rfl (two_of HT_.out (by kernel_rfl)) (by decide) (by decide) (fun K hK => ?_) (fun K hK => ?_)
            ·skip
             refine goes_ Try.func13 (by kernel_rfl) rfl #[.int .i64 ((rd_T33 l3 x19_1).f0), .int .i64 562949953421312] (by rfl) rfl rfl mt ?_
             with_reducible refine (prebendref16_Held.calls ((rd_T33 l3 x19_1).f0) 562949953421312 t427 _ A45.out).mono ?_
             rintro e w' ⟨rfl, ⟨nd, rfl⟩⟩
             refine ⟨_, rfl, ?_⟩
             refine hK.out _ _ ⟨((HB.out.cell (World.block_lt_of_cell? w _ hw426_0)).trans hw426_0), ((HB.out.cell (World.block_lt_of_cell? w _ hw426_1)).trans hw426_1), ((HB.out.cell (World.block_lt_of_cell? w _ hw426_2)).trans hw426_2), ((HB.out.cell (World.block_lt_of_cell? w _ hw428_0)).trans hw428_0), ((HB.out.cell (World.block_lt_of_cell? w _ hw428_1)).trans hw428_1), ((HB.out.cell (World.block_lt_of_cell? w _ hw428_2)).trans hw428_2), ((HB.out.cell (World.block_lt_of_cell? w _ hw430_0)).trans hw430_0), ((HB.out.cell (World.block_lt_of_cell? w _ hw430_1)).trans hw430_1), ((HB.out.cell (World.block_lt_of_cell? w _ hw430_2)).trans hw430_2)⟩ (fun hHeld => ?_)
             clear hK; clear K
             refine norm_ (a' := ?_) ?_ ?_
             rotate_left
             ·show Act.put _ (some 101) _ = _
              simp only [Act.put, List.setIfInBounds_toArray, List.set_cons_zero, List.set_cons_succ, i64_w, i32_w]
              rfl
             refine two_ (i := 11) (j := 19) (Ni := some 107) (Nj := some 24) #[true, true, true, true, true, true, true, true, true, true, true, true, true, true, true, true, true, false, false, false, false] #[true, true, true, true, true, true, true, true, true, true, true, false, true, true, true, true, true, false, false, true, false] rfl rfl rfl rfl (two_of HT_.out (by kernel_rfl)) (by decide) (by decide) (fun K hK => ?_) (fun K hK => ?_)
             ·skip
              refine goes_ Try.func13 (by kernel_rfl) rfl #[.int .i64 ((rd_T33 l3 x19_1).f1), .int .i64 562949953421312] (by rfl) rfl rfl mt ?_
              with_reducible refine (prebendref16_Held.calls ((rd_T33 l3 x19_1).f1) 562949953421312 t429 _ A46.out).mono ?_
              rintro e w' ⟨rfl, ⟨nd, rfl⟩⟩
              refine ⟨_, rfl, ?_⟩
              refine hK.out _ _ ⟨((HB.out.cell (World.block_lt_of_cell? w _ hw426_0)).trans hw426_0), ((HB.out.cell (World.block_lt_of_cell? w _ hw426_1)).trans hw426_1), ((HB.out.cell (World.block_lt_of_cell? w _ hw426_2)).trans hw426_2), ((HB.out.cell (World.block_lt_of_cell? w _ hw428_0)).trans hw428_0), ((HB.out.cell (World.block_lt_of_cell? w _ hw428_1)).trans hw428_1), ((HB.out.cell (World.block_lt_of_cell? w _ hw428_2)).trans hw428_2), ((HB.out.cell (World.block_lt_of_cell? w _ hw430_0)).trans hw430_0), ((HB.out.cell (World.block_lt_of_cell? w _ hw430_1)).trans hw430_1), ((HB.out.cell (World.block_lt_of_cell? w _ hw430_2)).trans hw430_2)⟩ (fun hHeld => ?_)
              clear hK; clear K
              refine norm_ (a' := ?_) ?_ ?_
              rotate_left
              ·show Act.put _ (some 107) _ = _
               simp only [Act.put, List.setIfInBounds_toArray, List.set_cons_zero, List.set_cons_succ, i64_w, i32_w]
               rfl
              refine two_ (i := 17) (j := 19) (Ni := some 113) (Nj := some 24) #[true, true, true, true, true, true, true, true, true, true, true, true, true, true, true, true, true, true, false, false, false] #[true, true, true, true, true, true, true, true, true, true, true, true, true, true, true, true, true, false, false, true, false] rfl rfl rfl rfl (two_of HT_.out (by kernel_rfl)) (by decide) (by decide) (fun K hK => ?_) (fun K hK => ?_)
              ·skip
               refine goes_ Try.func13 (by kernel_rfl) rfl #[.int .i64 ((rd_T33 l3 x19_1).f2), .int .i64 1048576] (by rfl) rfl rfl mt ?_
               with_reducible refine (prebendref16_Held.calls ((rd_T33 l3 x19_1).f2) 1048576 t431 _ A47.out).mono ?_
               rintro e w' ⟨rfl, ⟨nd, rfl⟩⟩
               refine ⟨_, rfl, ?_⟩
               refine hK.out _ _ ⟨((HB.out.cell (World.block_lt_of_cell? w _ hw426_0)).trans hw426_0), ((HB.out.cell (World.block_lt_of_cell? w _ hw426_1)).trans hw426_1), ((HB.out.cell (World.block_lt_of_cell? w _ hw426_2)).trans hw426_2), ((HB.out.cell (World.block_lt_of_cell? w _ hw428_0)).trans hw428_0), ((HB.out.cell (World.block_lt_of_cell? w _ hw428_1)).trans hw428_1), ((HB.out.cell (World.block_lt_of_cell? w _ hw428_2)).trans hw428_2), ((HB.out.cell (World.block_lt_of_cell? w _ hw430_0)).trans hw430_0), ((HB.out.cell (World.block_lt_of_cell? w _ hw430_1)).trans hw430_1), ((HB.out.cell (World.block_lt_of_cell? w _ hw430_2)).trans hw430_2)⟩ (fun hHeld => ?_)
               clear hK; clear K
               refine norm_ (a' := ?_) ?_ ?_
               rotate_left
               ·show Act.put _ (some 113) _ = _
                simp only [Act.put, List.setIfInBounds_toArray, List.set_cons_zero, List.set_cons_succ, i64_w, i32_w]
                rfl
               refine plan_ [(18, 114)] ?_
               refine planP_ (v := ?_) (a' := ?_) rfl rfl (any_of HT_.out (by kernel_rfl)) (fun _ _ _ h => h) (Or.inl ⟨by rfl, ?_⟩) ?_ ?_; rotate_left; (intro w'; go_simp; with_reducible rfl); rotate_left; (simp only [Act.put, List.setIfInBounds_toArray, List.set_cons_zero, List.set_cons_succ, i64_w, i32_w]; rfl)
               refine planEnd_ ?_
               refine one_ (i := 19) (N := some 24) #[true, true, true, true, true, true, true, true, true, true, true, true, true, true, true, true, true, true, true, true, false] rfl rfl (one_of HT_.out (by kernel_rfl)) (by decide) (fun K hK => ?_)
               refine box_step ?hg (N := 24) ?hd (cs := #[.int .i64 0, .int .i64 0, .int .i64 0]) (t := 33) ?hr ?_; (case hd => rfl); (case hg => rfl); (case hr => first | (go_simp; done) | (go_simp; rfl))
               intro gb432 hg w51 hbox hb
               have n0_ := Aside0.mk (Kd.V_below (Kd.V_elderB (mV HO_17.out) gb432 (Nat.le_of_eq hg.symm)) hb)
               have n1_ := Aside0.mk (Kd.R_below (mR HO_18.out) hb)
               have n2_ := Aside0.mk (below_step (mB HB.out) hb)
               have n3_ := Aside0.mk (hbox)
               have n4_ := Aside0.mk ((by rw [hg]; exact (below_size (mB HB.out)) : w.heap.size ≤ gb432))
               have n5_ := Aside0.mk ((by rw [hg]; exact (below_size (mB HB.out)) : w.heap.size ≤ gb432))
               clear HO_17; clear HO_18; clear HB
               have HO_17 := n0_
               have HO_18 := n1_
               have HB := n2_
               have BK432 := n3_
               have GW432 := n4_
               have GE432 := n5_
               clear n0_; clear n1_; clear n2_; clear n3_; clear n4_; clear n5_; clear hb; clear hbox; clear hg
               refine hK.out _ _ ⟨((HB.out.cell (World.block_lt_of_cell? w _ hw426_0)).trans hw426_0), ((HB.out.cell (World.block_lt_of_cell? w _ hw426_1)).trans hw426_1), ((HB.out.cell (World.block_lt_of_cell? w _ hw426_2)).trans hw426_2), ((HB.out.cell (World.block_lt_of_cell? w _ hw428_0)).trans hw428_0), ((HB.out.cell (World.block_lt_of_cell? w _ hw428_1)).trans hw428_1), ((HB.out.cell (World.block_lt_of_cell? w _ hw428_2)).trans hw428_2), ((HB.out.cell (World.block_lt_of_cell? w _ hw430_0)).trans hw430_0), ((HB.out.cell (World.block_lt_of_cell? w _ hw430_1)).trans hw430_1), ((HB.out.cell (World.block_lt_of_cell? w _ hw430_2)).trans hw430_2)⟩ (fun hHeld => ?_)
               clear hK; clear K
               refine norm_ (a' := ?_) ?_ ?_
               rotate_left
               ·show Act.put _ (some 24) _ = _
                simp only [Act.put, List.setIfInBounds_toArray, List.set_cons_zero, List.set_cons_succ, i64_w, i32_w]
                rfl
               exact norm_ (by simp only [putAll, Act.put, List.setIfInBounds_toArray, List.set_cons_zero, List.set_cons_succ]) (hCont (gb432) _ ⟨hHeld, (mV HO_17.out), (mR HO_18.out), (mBK BK432.out), GW432.out, GE432.out, (mBs HB.out)⟩)
              ·skip
               refine box_step ?hg (N := 24) ?hd (cs := #[.int .i64 0, .int .i64 0, .int .i64 0]) (t := 33) ?hr ?_; (case hd => rfl); (case hg => rfl); (case hr => first | (go_simp; done) | (go_simp; rfl))
               intro gb432 hg w51 hbox hb
               have n0_ := Aside0.mk (Kd.V_below (Kd.V_elderB (mV HO_17.out) gb432 (Nat.le_of_eq hg.symm)) hb)
               have n1_ := Aside0.mk (Kd.R_below (mR HO_18.out) hb)
               have n2_ := Aside0.mk (below_step (mB HB.out) hb)
               have n3_ := Aside0.mk (hbox)
               have n4_ := Aside0.mk ((by rw [hg]; exact (below_size (mB HB.out)) : w.heap.size ≤ gb432))
               have n5_ := Aside0.mk ((by rw [hg]; exact (below_size (mB HB.out)) : w.heap.size ≤ gb432))
               clear HO_17; clear HO_18; clear HB
               have HO_17 := n0_
               have HO_18 := n1_
               have HB := n2_
               have BK432 := n3_
               have GW432 := n4_
               have GE432 := n5_
               clear n0_; clear n1_; clear n2_; clear n3_; clear n4_; clear n5_; clear hb; clear hbox; clear hg
               refine hK.out _ _ ⟨((HB.out.cell (World.block_lt_of_cell? w _ hw426_0)).trans hw426_0), ((HB.out.cell (World.block_lt_of_cell? w _ hw426_1)).trans hw426_1), ((HB.out.cell (World.block_lt_of_cell? w _ hw426_2)).trans hw426_2), ((HB.out.cell (World.block_lt_of_cell? w _ hw428_0)).trans hw428_0), ((HB.out.cell (World.block_lt_of_cell? w _ hw428_1)).trans hw428_1), ((HB.out.cell (World.block_lt_of_cell? w _ hw428_2)).trans hw428_2), ((HB.out.cell (World.block_lt_of_cell? w _ hw430_0)).trans hw430_0), ((HB.out.cell (World.block_lt_of_cell? w _ hw430_1)).trans hw430_1), ((HB.out.cell (World.block_lt_of_cell? w _ hw430_2)).trans hw430_2)⟩ (fun hHeld => ?_)
               clear hK; clear K
               refine norm_ (a' := ?_) ?_ ?_
               rotate_left
               ·show Act.put _ (some 24) _ = _
                simp only [Act.put, List.setIfInBounds_toArray, List.set_cons_zero, List.set_cons_succ, i64_w, i32_w]
                rfl
               refine one_ (i := 17) (N := some 113) #[true, true, true, true, true, true, true, true, true, true, true, true, true, true, true, true, true, true, false, true, false] rfl rfl (one_of HT_.out (by kernel_rfl)) (by decide) (fun K hK => ?_)
               refine goes_ Try.func13 (by kernel_rfl) rfl #[.int .i64 ((rd_T33 l3 x19_1).f2), .int .i64 1048576] (by rfl) rfl rfl mt ?_
               with_reducible refine (prebendref16_Held.calls ((rd_T33 l3 x19_1).f2) 1048576 t431 _ A47.out).mono ?_
               rintro e w' ⟨rfl, ⟨nd, rfl⟩⟩
               refine ⟨_, rfl, ?_⟩
               refine hK.out _ _ ⟨((HB.out.cell (World.block_lt_of_cell? w _ hw426_0)).trans hw426_0), ((HB.out.cell (World.block_lt_of_cell? w _ hw426_1)).trans hw426_1), ((HB.out.cell (World.block_lt_of_cell? w _ hw426_2)).trans hw426_2), ((HB.out.cell (World.block_lt_of_cell? w _ hw428_0)).trans hw428_0), ((HB.out.cell (World.block_lt_of_cell? w _ hw428_1)).trans hw428_1), ((HB.out.cell (World.block_lt_of_cell? w _ hw428_2)).trans hw428_2), ((HB.out.cell (World.block_lt_of_cell? w _ hw430_0)).trans hw430_0), ((HB.out.cell (World.block_lt_of_cell? w _ hw430_1)).trans hw430_1), ((HB.out.cell (World.block_lt_of_cell? w _ hw430_2)).trans hw430_2)⟩ (fun hHeld => ?_)
               clear hK; clear K
               refine norm_ (a' := ?_) ?_ ?_
               rotate_left
               ·show Act.put _ (some 113) _ = _
                simp only [Act.put, List.setIfInBounds_toArray, List.set_cons_zero, List.set_cons_succ, i64_w, i32_w]
                rfl
               refine plan_ [(18, 114)] ?_
               refine planP_ (v := ?_) (a' := ?_) rfl rfl (any_of HT_.out (by kernel_rfl)) (fun _ _ _ h => h) (Or.inl ⟨by rfl, ?_⟩) ?_ ?_; rotate_left; (intro w'; go_simp; with_reducible rfl); rotate_left; (simp only [Act.put, List.setIfInBounds_toArray, List.set_cons_zero, List.set_cons_succ, i64_w, i32_w]; rfl)
               refine planEnd_ ?_
               exact norm_ (by simp only [putAll, Act.put, List.setIfInBounds_toArray, List.set_cons_zero, List.set_cons_succ]) (hCont (gb432) _ ⟨hHeld, (mV HO_17.out), (mR HO_18.out), (mBK BK432.out), GW432.out, GE432.out, (mBs HB.out)⟩)
             ·skip
              refine box_step ?hg (N := 24) ?hd (cs := #[.int .i64 0, .int .i64 0, .int .i64 0]) (t := 33) ?hr ?_; (case hd => rfl); (case hg => rfl); (case hr => first | (go_simp; done) | (go_simp; rfl))
              intro gb432 hg w51 hbox hb
              have n0_ := Aside0.mk (Kd.V_below (Kd.V_elderB (mV HO_17.out) gb432 (Nat.le_of_eq hg.symm)) hb)
              have n1_ := Aside0.mk (Kd.R_below (mR HO_18.out) hb)
              have n2_ := Aside0.mk (below_step (mB HB.out) hb)
              have n3_ := Aside0.mk (hbox)
              have n4_ := Aside0.mk ((by rw [hg]; exact (below_size (mB HB.out)) : w.heap.size ≤ gb432))
              have n5_ := Aside0.mk ((by rw [hg]; exact (below_size (mB HB.out)) : w.heap.size ≤ gb432))
              clear HO_17; clear HO_18; clear HB
              have HO_17 := n0_
              have HO_18 := n1_
              have HB := n2_
              have BK432 := n3_
              have GW432 := n4_
              have GE432 := n5_
              clear n0_; clear n1_; clear n2_; clear n3_; clear n4_; clear n5_; clear hb; clear hbox; clear hg
              refine hK.out _ _ ⟨((HB.out.cell (World.block_lt_of_cell? w _ hw426_0)).trans hw426_0), ((HB.out.cell (World.block_lt_of_cell? w _ hw426_1)).trans hw426_1), ((HB.out.cell (World.block_lt_of_cell? w _ hw426_2)).trans hw426_2), ((HB.out.cell (World.block_lt_of_cell? w _ hw428_0)).trans hw428_0), ((HB.out.cell (World.block_lt_of_cell? w _ hw428_1)).trans hw428_1), ((HB.out.cell (World.block_lt_of_cell? w _ hw428_2)).trans hw428_2), ((HB.out.cell (World.block_lt_of_cell? w _ hw430_0)).trans hw430_0), ((HB.out.cell (World.block_lt_of_cell? w _ hw430_1)).trans hw430_1), ((HB.out.cell (World.block_lt_of_cell? w _ hw430_2)).trans hw430_2)⟩ (fun hHeld => ?_)
              clear hK; clear K
              refine norm_ (a' := ?_) ?_ ?_
              rotate_left
              ·show Act.put _ (some 24) _ = _
               simp only [Act.put, List.setIfInBounds_toArray, List.set_cons_zero, List.set_cons_succ, i64_w, i32_w]
               rfl
              refine one_ (i := 11) (N := some 107) #[true, true, true, true, true, true, true, true, true, true, true, true, true, true, true, true, true, false, false, true, false] rfl rfl (one_of HT_.out (by kernel_rfl)) (by decide) (fun K hK => ?_)
              refine goes_ Try.func13 (by kernel_rfl) rfl #[.int .i64 ((rd_T33 l3 x19_1).f1), .int .i64 562949953421312] (by rfl) rfl rfl mt ?_
              with_reducible refine (prebendref16_Held.calls ((rd_T33 l3 x19_1).f1) 562949953421312 t429 _ A46.out).mono ?_
              rintro e w' ⟨rfl, ⟨nd, rfl⟩⟩
              refine ⟨_, rfl, ?_⟩
              refine hK.out _ _ ⟨((HB.out.cell (World.block_lt_of_cell? w _ hw426_0)).trans hw426_0), ((HB.out.cell (World.block_lt_of_cell? w _ hw426_1)).trans hw426_1), ((HB.out.cell (World.block_lt_of_cell? w _ hw426_2)).trans hw426_2), ((HB.out.cell (World.block_lt_of_cell? w _ hw428_0)).trans hw428_0), ((HB.out.cell (World.block_lt_of_cell? w _ hw428_1)).trans hw428_1), ((HB.out.cell (World.block_lt_of_cell? w _ hw428_2)).trans hw428_2), ((HB.out.cell (World.block_lt_of_cell? w _ hw430_0)).trans hw430_0), ((HB.out.cell (World.block_lt_of_cell? w _ hw430_1)).trans hw430_1), ((HB.out.cell (World.block_lt_of_cell? w _ hw430_2)).trans hw430_2)⟩ (fun hHeld => ?_)
              clear hK; clear K
              refine norm_ (a' := ?_) ?_ ?_
              rotate_left
              ·show Act.put _ (some 107) _ = _
               simp only [Act.put, List.setIfInBounds_toArray, List.set_cons_zero, List.set_cons_succ, i64_w, i32_w]
               rfl
              refine one_ (i := 17) (N := some 113) #[true, true, true, true, true, true, true, true, true, true, true, true, true, true, true, true, true, true, false, true, false] rfl rfl (one_of HT_.out (by kernel_rfl)) (by decide) (fun K hK => ?_)
              refine goes_ Try.func13 (by kernel_rfl) rfl #[.int .i64 ((rd_T33 l3 x19_1).f2), .int .i64 1048576] (by rfl) rfl rfl mt ?_
              with_reducible refine (prebendref16_Held.calls ((rd_T33 l3 x19_1).f2) 1048576 t431 _ A47.out).mono ?_
              rintro e w' ⟨rfl, ⟨nd, rfl⟩⟩
              refine ⟨_, rfl, ?_⟩
              refine hK.out _ _ ⟨((HB.out.cell (World.block_lt_of_cell? w _ hw426_0)).trans hw426_0), ((HB.out.cell (World.block_lt_of_cell? w _ hw426_1)).trans hw426_1), ((HB.out.cell (World.block_lt_of_cell? w _ hw426_2)).trans hw426_2), ((HB.out.cell (World.block_lt_of_cell? w _ hw428_0)).trans hw428_0), ((HB.out.cell (World.block_lt_of_cell? w _ hw428_1)).trans hw428_1), ((HB.out.cell (World.block_lt_of_cell? w _ hw428_2)).trans hw428_2), ((HB.out.cell (World.block_lt_of_cell? w _ hw430_0)).trans hw430_0), ((HB.out.cell (World.block_lt_of_cell? w _ hw430_1)).trans hw430_1), ((HB.out.cell (World.block_lt_of_cell? w _ hw430_2)).trans hw430_2)⟩ (fun hHeld => ?_)
              clear hK; clear K
              refine norm_ (a' := ?_) ?_ ?_
              rotate_left
              ·show Act.put _ (some 113) _ = _
               simp only [Act.put, List.setIfInBounds_toArray, List.set_cons_zero, List.set_cons_succ, i64_w, i32_w]
               rfl
              refine plan_ [(18, 114)] ?_
              refine planP_ (v := ?_) (a' := ?_) rfl rfl (any_of HT_.out (by kernel_rfl)) (fun _ _ _ h => h) (Or.inl ⟨by rfl, ?_⟩) ?_ ?_; rotate_left; (intro w'; go_simp; with_reducible rfl); rotate_left; (simp only [Act.put, List.setIfInBounds_toArray, List.set_cons_zero, List.set_cons_succ, i64_w, i32_w]; rfl)
              refine planEnd_ ?_
              exact norm_ (by simp only [putAll, Act.put, List.setIfInBounds_toArray, List.set_cons_zero, List.set_cons_succ]) (hCont (gb432) _ ⟨hHeld, (mV HO_17.out), (mR HO_18.out), (mBK BK432.out), GW432.out, GE432.out, (mBs HB.out)⟩)
            ·skip
             refine box_step ?hg (N := 24) ?hd (cs := #[.int .i64 0, .int .i64 0, .int .i64 0]) (t := 33) ?hr ?_; (case hd => rfl); (case hg => rfl); (case hr => first | (go_simp; done) | (go_simp; rfl))
             intro gb432 hg w51 hbox hb
             have n0_ := Aside0.mk (Kd.V_below (Kd.V_elderB (mV HO_17.out) gb432 (Nat.le_of_eq hg.symm)) hb)
             have n1_ := Aside0.mk (Kd.R_below (mR HO_18.out) hb)
             have n2_ := Aside0.mk (below_step (mB HB.out) hb)
             have n3_ := Aside0.mk (hbox)
             have n4_ := Aside0.mk ((by rw [hg]; exact (below_size (mB HB.out)) : w.heap.size ≤ gb432))
             have n5_ := Aside0.mk ((by rw [hg]; exact (below_size (mB HB.out)) : w.heap.size ≤ gb432))
             clear HO_17; clear HO_18; clear HB
             have HO_17 := n0_
             have HO_18 := n1_
             have HB := n2_
             have BK432 := n3_
             have GW432 := n4_
             have GE432 := n5_
             clear n0_; clear n1_; clear n2_; clear n3_; clear n4_; clear n5_; clear hb; clear hbox; clear hg
             refine hK.out _ _ ⟨((HB.out.cell (World.block_lt_of_cell? w _ hw426_0)).trans hw426_0), ((HB.out.cell (World.block_lt_of_cell? w _ hw426_1)).trans hw426_1), ((HB.out.cell (World.block_lt_of_cell? w _ hw426_2)).trans hw426_2), ((HB.out.cell (World.block_lt_of_cell? w _ hw428_0)).trans hw428_0), ((HB.out.cell (World.block_lt_of_cell? w _ hw428_1)).trans hw428_1), ((HB.out.cell (World.block_lt_of_cell? w _ hw428_2)).trans hw428_2), ((HB.out.cell (World.block_lt_of_cell? w _ hw430_0)).trans hw430_0), ((HB.out.cell (World.block_lt_of_cell? w _ hw430_1)).trans hw430_1), ((HB.out.cell (World.block_lt_of_cell? w _ hw430_2)).trans hw430_2)⟩ (fun hHeld => ?_)
             clear hK; clear K
             refine norm_ (a' := ?_) ?_ ?_
             rotate_left
             ·show Act.put _ (some 24) _ = _
              simp only [Act.put, List.setIfInBounds_toArray, List.set_cons_zero, List.set_cons_succ, i64_w, i32_w]
              rfl
             refine one_ (i := 5) (N := some 101) #[true, true, true, true, true, true, true, true, true, true, true, false, true, true, true, true, true, false, false, true, false] rfl rfl (one_of HT_.out (by kernel_rfl)) (by decide) (fun K hK => ?_)
             refine goes_ Try.func13 (by kernel_rfl) rfl #[.int .i64 ((rd_T33 l3 x19_1).f0), .int .i64 562949953421312] (by rfl) rfl rfl mt ?_
             with_reducible refine (prebendref16_Held.calls ((rd_T33 l3 x19_1).f0) 562949953421312 t427 _ A45.out).mono ?_
             rintro e w' ⟨rfl, ⟨nd, rfl⟩⟩
             refine ⟨_, rfl, ?_⟩
             refine hK.out _ _ ⟨((HB.out.cell (World.block_lt_of_cell? w _ hw426_0)).trans hw426_0), ((HB.out.cell (World.block_lt_of_cell? w _ hw426_1)).trans hw426_1), ((HB.out.cell (World.block_lt_of_cell? w _ hw426_2)).trans hw426_2), ((HB.out.cell (World.block_lt_of_cell? w _ hw428_0)).trans hw428_0), ((HB.out.cell (World.block_lt_of_cell? w _ hw428_1)).trans hw428_1), ((HB.out.cell (World.block_lt_of_cell? w _ hw428_2)).trans hw428_2), ((HB.out.cell (World.block_lt_of_cell? w _ hw430_0)).trans hw430_0), ((HB.out.cell (World.block_lt_of_cell? w _ hw430_1)).trans hw430_1), ((HB.out.cell (World.block_lt_of_cell? w _ hw430_2)).trans hw430_2)⟩ (fun hHeld => ?_)
             clear hK; clear K
             refine norm_ (a' := ?_) ?_ ?_
             rotate_left
             ·show Act.put _ (some 101) _ = _
              simp only [Act.put, List.setIfInBounds_toArray, List.set_cons_zero, List.set_cons_succ, i64_w, i32_w]
              rfl
             refine one_ (i := 11) (N := some 107) #[true, true, true, true, true, true, true, true, true, true, true, true, true, true, true, true, true, false, false, true, false] rfl rfl (one_of HT_.out (by kernel_rfl)) (by decide) (fun K hK => ?_)
             refine goes_ Try.func13 (by kernel_rfl) rfl #[.int .i64 ((rd_T33 l3 x19_1).f1), .int .i64 562949953421312] (by rfl) rfl rfl mt ?_
             with_reducible refine (prebendref16_Held.calls ((rd_T33 l3 x19_1).f1) 562949953421312 t429 _ A46.out).mono ?_
             rintro e w' ⟨rfl, ⟨nd, rfl⟩⟩
             refine ⟨_, rfl, ?_⟩
             refine hK.out _ _ ⟨((HB.out.cell (World.block_lt_of_cell? w _ hw426_0)).trans hw426_0), ((HB.out.cell (World.block_lt_of_cell? w _ hw426_1)).trans hw426_1), ((HB.out.cell (World.block_lt_of_cell? w _ hw426_2)).trans hw426_2), ((HB.out.cell (World.block_lt_of_cell? w _ hw428_0)).trans hw428_0), ((HB.out.cell (World.block_lt_of_cell? w _ hw428_1)).trans hw428_1), ((HB.out.cell (World.block_lt_of_cell? w _ hw428_2)).trans hw428_2), ((HB.out.cell (World.block_lt_of_cell? w _ hw430_0)).trans hw430_0), ((HB.out.cell (World.block_lt_of_cell? w _ hw430_1)).trans hw430_1), ((HB.out.cell (World.block_lt_of_cell? w _ hw430_2)).trans hw430_2)⟩ (fun hHeld => ?_)
             clear hK; clear K
             refine norm_ (a' := ?_) ?_ ?_
             rotate_left
             ·show Act.put _ (some 107) _ = _
              simp only [Act.put, List.setIfInBounds_toArray, List.set_cons_zero, List.set_cons_succ, i64_w, i32_w]
              rfl
             refine one_ (i := 17) (N := some 113) #[true, true, true, true, true, true, true, true, true, true, true, true, true, true, true, true, true, true, false, true, false] rfl rfl (one_of HT_.out (by kernel_rfl)) (by decide) (fun K hK => ?_)
             refine goes_ Try.func13 (by kernel_rfl) rfl #[.int .i64 ((rd_T33 l3 x19_1).f2), .int .i64 1048576] (by rfl) rfl rfl mt ?_
             with_reducible refine (prebendref16_Held.calls ((rd_T33 l3 x19_1).f2) 1048576 t431 _ A47.out).mono ?_
             rintro e w' ⟨rfl, ⟨nd, rfl⟩⟩
             refine ⟨_, rfl, ?_⟩
             refine hK.out _ _ ⟨((HB.out.cell (World.block_lt_of_cell? w _ hw426_0)).trans hw426_0), ((HB.out.cell (World.block_lt_of_cell? w _ hw426_1)).trans hw426_1), ((HB.out.cell (World.block_lt_of_cell? w _ hw426_2)).trans hw426_2), ((HB.out.cell (World.block_lt_of_cell? w _ hw428_0)).trans hw428_0), ((HB.out.cell (World.block_lt_of_cell? w _ hw428_1)).trans hw428_1), ((HB.out.cell (World.block_lt_of_cell? w _ hw428_2)).trans hw428_2), ((HB.out.cell (World.block_lt_of_cell? w _ hw430_0)).trans hw430_0), ((HB.out.cell (World.block_lt_of_cell? w _ hw430_1)).trans hw430_1), ((HB.out.cell (World.block_lt_of_cell? w _ hw430_2)).trans hw430_2)⟩ (fun hHeld => ?_)
             clear hK; clear K
             refine norm_ (a' := ?_) ?_ ?_
             rotate_left
             ·show Act.put _ (some 113) _ = _
              simp only [Act.put, List.setIfInBounds_toArray, List.set_cons_zero, List.set_cons_succ, i64_w, i32_w]
              rfl
             refine plan_ [(18, 114)] ?_
             refine planP_ (v := ?_) (a' := ?_) rfl rfl (any_of HT_.out (by kernel_rfl)) (fun _ _ _ h => h) (Or.inl ⟨by rfl, ?_⟩) ?_ ?_; rotate_left; (intro w'; go_simp; with_reducible rfl); rotate_left; (simp only [Act.put, List.setIfInBounds_toArray, List.set_cons_zero, List.set_cons_succ, i64_w, i32_w]; rfl)
             refine planEnd_ ?_
             exact norm_ (by simp only [putAll, Act.put, List.setIfInBounds_toArray, List.set_cons_zero, List.set_cons_succ]) (hCont (gb432) _ ⟨hHeld, (mV HO_17.out), (mR HO_18.out), (mBK BK432.out), GW432.out, GE432.out, (mBs HB.out)⟩)
           rintro gb432 w52 ⟨hS_, h0_, h1_, h2_, h3_, h4_, h5_⟩
           have n0_ : Aside0 (Kd.V k40 40 w52 w.heap.size (fun k_ => some k_ ≠ (.slice Ao32 x18_1.length co32 : Value).ownBlock ∧ k_ ≠ gb432) (.slice Ao30 x17_1.length co30) x17_1) := ⟨h0_⟩
           have n1_ : Aside0 (Kd.R k40 40 w52 w.heap.size (fun _ => True) (.slice Ao32 x18_1.length co32) x18_1) := ⟨h1_⟩
           have n2_ : Aside0 (w52.heap[gb432]? = some (.cells #[.int .i64 0, .int .i64 0, .int .i64 0] 33 (0, 0))) := ⟨h2_⟩
           have n3_ : Aside0 (w.heap.size ≤ gb432) := ⟨h3_⟩
           have n4_ : Aside0 (w.heap.size ≤ gb432) := ⟨h4_⟩
           have n5_ : Aside0 (Below w.heap.size w w52) := ⟨h5_⟩
           clear HO_17; clear HO_18; clear HB; clear h0_; clear h1_; clear h2_; clear h3_; clear h4_; clear h5_
           have HO_17 := n0_
           have HO_18 := n1_
           have BK432 := n2_
           have GW432 := n3_
           have GE432 := n4_
           have HB := n5_
           clear n0_; clear n1_; clear n2_; clear n3_; clear n4_; clear n5_
           have hHeld : w52.cell? (ad426.add ((x19_1).toNat * 3)) = some (.int .i64 ((rd_T33 l3 x19_1).f0)) ∧ w52.cell? ⟨(ad426.add ((x19_1).toNat * 3)).block, (ad426.add ((x19_1).toNat * 3)).off + 1, none⟩ = some (.int .i64 ((rd_T33 l3 x19_1).f1)) ∧ w52.cell? ⟨(ad426.add ((x19_1).toNat * 3)).block, (ad426.add ((x19_1).toNat * 3)).off + 2, none⟩ = some (.int .i64 ((rd_T33 l3 x19_1).f2)) ∧ w52.cell? (ad426.add ((x19_1).toNat * 3)) = some (.int .i64 ((rd_T33 l3 x19_1).f0)) ∧ w52.cell? ⟨(ad426.add ((x19_1).toNat * 3)).block, (ad426.add ((x19_1).toNat * 3)).off + 1, none⟩ = some (.int .i64 ((rd_T33 l3 x19_1).f1)) ∧ w52.cell? ⟨(ad426.add ((x19_1).toNat * 3)).block, (ad426.add ((x19_1).toNat * 3)).off + 2, none⟩ = some (.int .i64 ((rd_T33 l3 x19_1).f2)) ∧ w52.cell? (ad426.add ((x19_1).toNat * 3)) = some (.int .i64 ((rd_T33 l3 x19_1).f0)) ∧ w52.cell? ⟨(ad426.add ((x19_1).toNat * 3)).block, (ad426.add ((x19_1).toNat * 3)).off + 1, none⟩ = some (.int .i64 ((rd_T33 l3 x19_1).f1)) ∧ w52.cell? ⟨(ad426.add ((x19_1).toNat * 3)).block, (ad426.add ((x19_1).toNat * 3)).off + 2, none⟩ = some (.int .i64 ((rd_T33 l3 x19_1).f2)) := hS_
           refine norm_ (a' := ?_) ?_ ?_
           rotate_left
           ·simp only [putAll, Act.put, List.setIfInBounds_toArray, List.set_cons_zero, List.set_cons_succ]
            rfl
           refine one_ (i := 20) (N := none) #[true, true, true, true, true, true, true, true, true, true, true, true, true, true, true, true, true, true, true, true, true] rfl rfl (one_of HT_.out (by kernel_rfl)) (by decide) (fun K hK => ?_)
           have hs53 : w52.cell? ⟨gb432, 0, none⟩ = some (.int .i64 0) := (blk_cell BK432.out 0).trans rfl
           have hfs53 := blk_frozen BK432.out 0
           have hs54 : w52.cell? ⟨gb432, 1, none⟩ = some (.int .i64 0) := (blk_cell BK432.out 1).trans rfl
           have hfs54 := blk_frozen BK432.out 1
           have hs55 : w52.cell? ⟨gb432, 2, none⟩ = some (.int .i64 0) := (blk_cell BK432.out 2).trans rfl
           have hfs55 := blk_frozen BK432.out 2
           refine skip_ (w1 := ?_) (by rfl) rfl ?_ ?_
           rotate_left
           ·go_simp
            rfl
           refine hK.out _ _ ⟨((cell_far (p := ⟨gb432, _, none⟩) (by first | exact Nat.ne_of_lt (Nat.lt_of_lt_of_le (by have := World.block_lt_of_cell? _ _ hw426_0; first | rwa [add_block] at this | exact this) GW432.out) | (rw [add_block]; exact Nat.ne_of_lt (Nat.lt_of_lt_of_le (by have := World.block_lt_of_cell? _ _ hw426_0; first | rwa [add_block] at this | exact this) GW432.out)) | (show (Addr.add _ _).block ≠ _; rw [add_block]; exact Nat.ne_of_lt (Nat.lt_of_lt_of_le (by have := World.block_lt_of_cell? _ _ hw426_0; first | rwa [add_block] at this | exact this) GW432.out)) | (dsimp only; exact Nat.ne_of_lt (Nat.lt_of_lt_of_le (by have := World.block_lt_of_cell? _ _ hw426_0; first | rwa [add_block] at this | exact this) GW432.out))) _).trans (((cell_far (p := ⟨gb432, _, none⟩) (by first | exact Nat.ne_of_lt (Nat.lt_of_lt_of_le (by have := World.block_lt_of_cell? _ _ hw426_0; first | rwa [add_block] at this | exact this) GW432.out) | (rw [add_block]; exact Nat.ne_of_lt (Nat.lt_of_lt_of_le (by have := World.block_lt_of_cell? _ _ hw426_0; first | rwa [add_block] at this | exact this) GW432.out)) | (show (Addr.add _ _).block ≠ _; rw [add_block]; exact Nat.ne_of_lt (Nat.lt_of_lt_of_le (by have := World.block_lt_of_cell? _ _ hw426_0; first | rwa [add_block] at this | exact this) GW432.out)) | (dsimp only; exact Nat.ne_of_lt (Nat.lt_of_lt_of_le (by have := World.block_lt_of_cell? _ _ hw426_0; first | rwa [add_block] at this | exact this) GW432.out))) _).trans (((cell_far (p := ⟨gb432, _, none⟩) (by first | exact Nat.ne_of_lt (Nat.lt_of_lt_of_le (by have := World.block_lt_of_cell? _ _ hw426_0; first | rwa [add_block] at this | exact this) GW432.out) | (rw [add_block]; exact Nat.ne_of_lt (Nat.lt_of_lt_of_le (by have := World.block_lt_of_cell? _ _ hw426_0; first | rwa [add_block] at this | exact this) GW432.out)) | (show (Addr.add _ _).block ≠ _; rw [add_block]; exact Nat.ne_of_lt (Nat.lt_of_lt_of_le (by have := World.block_lt_of_cell? _ _ hw426_0; first | rwa [add_block] at this | exact this) GW432.out)) | (dsimp only; exact Nat.ne_of_lt (Nat.lt_of_lt_of_le (by have := World.block_lt_of_cell? _ _ hw426_0; first | rwa [add_block] at this | exact this) GW432.out))) _).trans (hHeld.1)))))), ((cell_far (p := ⟨gb432, _, none⟩) (by first | exact Nat.ne_of_lt (Nat.lt_of_lt_of_le (by have := World.block_lt_of_cell? _ _ hw426_1; first | rwa [add_block] at this | exact this) GW432.out) | (rw [add_block]; exact Nat.ne_of_lt (Nat.lt_of_lt_of_le (by have := World.block_lt_of_cell? _ _ hw426_1; first | rwa [add_block] at this | exact this) GW432.out)) | (show (Addr.add _ _).block ≠ _; rw [add_block]; exact Nat.ne_of_lt (Nat.lt_of_lt_of_le (by have := World.block_lt_of_cell? _ _ hw426_1; first | rwa [add_block] at this | exact this) GW432.out)) | (dsimp only; exact Nat.ne_of_lt (Nat.lt_of_lt_of_le (by have := World.block_lt_of_cell? _ _ hw426_1; first | rwa [add_block] at this | exact this) GW432.out))) _).trans (((cell_far (p := ⟨gb432, _, none⟩) (by first | exact Nat.ne_of_lt (Nat.lt_of_lt_of_le (by have := World.block_lt_of_cell? _ _ hw426_1; first | rwa [add_block] at this | exact this) GW432.out) | (rw [add_block]; exact Nat.ne_of_lt (Nat.lt_of_lt_of_le (by have := World.block_lt_of_cell? _ _ hw426_1; first | rwa [add_block] at this | exact this) GW432.out)) | (show (Addr.add _ _).block ≠ _; rw [add_block]; exact Nat.ne_of_lt (Nat.lt_of_lt_of_le (by have := World.block_lt_of_cell? _ _ hw426_1; first | rwa [add_block] at this | exact this) GW432.out)) | (dsimp only; exact Nat.ne_of_lt (Nat.lt_of_lt_of_le (by have := World.block_lt_of_cell? _ _ hw426_1; first | rwa [add_block] at this | exact this) GW432.out))) _).trans (((cell_far (p := ⟨gb432, _, none⟩) (by first | exact Nat.ne_of_lt (Nat.lt_of_lt_of_le (by have := World.block_lt_of_cell? _ _ hw426_1; first | rwa [add_block] at this | exact this) GW432.out) | (rw [add_block]; exact Nat.ne_of_lt (Nat.lt_of_lt_of_le (by have := World.block_lt_of_cell? _ _ hw426_1; first | rwa [add_block] at this | exact this) GW432.out)) | (show (Addr.add _ _).block ≠ _; rw [add_block]; exact Nat.ne_of_lt (Nat.lt_of_lt_of_le (by have := World.block_lt_of_cell? _ _ hw426_1; first | rwa [add_block] at this | exact this) GW432.out)) | (dsimp only; exact Nat.ne_of_lt (Nat.lt_of_lt_of_le (by have := World.block_lt_of_cell? _ _ hw426_1; first | rwa [add_block] at this | exact this) GW432.out))) _).trans (hHeld.2.1)))))), ((cell_far (p := ⟨gb432, _, none⟩) (by first | exact Nat.ne_of_lt (Nat.lt_of_lt_of_le (by have := World.block_lt_of_cell? _ _ hw426_2; first | rwa [add_block] at this | exact this) GW432.out) | (rw [add_block]; exact Nat.ne_of_lt (Nat.lt_of_lt_of_le (by have := World.block_lt_of_cell? _ _ hw426_2; first | rwa [add_block] at this | exact this) GW432.out)) | (show (Addr.add _ _).block ≠ _; rw [add_block]; exact Nat.ne_of_lt (Nat.lt_of_lt_of_le (by have := World.block_lt_of_cell? _ _ hw426_2; first | rwa [add_block] at this | exact this) GW432.out)) | (dsimp only; exact Nat.ne_of_lt (Nat.lt_of_lt_of_le (by have := World.block_lt_of_cell? _ _ hw426_2; first | rwa [add_block] at this | exact this) GW432.out))) _).trans (((cell_far (p := ⟨gb432, _, none⟩) (by first | exact Nat.ne_of_lt (Nat.lt_of_lt_of_le (by have := World.block_lt_of_cell? _ _ hw426_2; first | rwa [add_block] at this | exact this) GW432.out) | (rw [add_block]; exact Nat.ne_of_lt (Nat.lt_of_lt_of_le (by have := World.block_lt_of_cell? _ _ hw426_2; first | rwa [add_block] at this | exact this) GW432.out)) | (show (Addr.add _ _).block ≠ _; rw [add_block]; exact Nat.ne_of_lt (Nat.lt_of_lt_of_le (by have := World.block_lt_of_cell? _ _ hw426_2; first | rwa [add_block] at this | exact this) GW432.out)) | (dsimp only; exact Nat.ne_of_lt (Nat.lt_of_lt_of_le (by have := World.block_lt_of_cell? _ _ hw426_2; first | rwa [add_block] at this | exact this) GW432.out))) _).trans (((cell_far (p := ⟨gb432, _, none⟩) (by first | exact Nat.ne_of_lt (Nat.lt_of_lt_of_le (by have := World.block_lt_of_cell? _ _ hw426_2; first | rwa [add_block] at this | exact this) GW432.out) | (rw [add_block]; exact Nat.ne_of_lt (Nat.lt_of_lt_of_le (by have := World.block_lt_of_cell? _ _ hw426_2; first | rwa [add_block] at this | exact this) GW432.out)) | (show (Addr.add _ _).block ≠ _; rw [add_block]; exact Nat.ne_of_lt (Nat.lt_of_lt_of_le (by have := World.block_lt_of_cell? _ _ hw426_2; first | rwa [add_block] at this | exact this) GW432.out)) | (dsimp only; exact Nat.ne_of_lt (Nat.lt_of_lt_of_le (by have := World.block_lt_of_cell? _ _ hw426_2; first | rwa [add_block] at this | exact this) GW432.out))) _).trans (hHeld.2.2.1)))))), ((cell_far (p := ⟨gb432, _, none⟩) (by first | exact Nat.ne_of_lt (Nat.lt_of_lt_of_le (by have := World.block_lt_of_cell? _ _ hw428_0; first | rwa [add_block] at this | exact this) GW432.out) | (rw [add_block]; exact Nat.ne_of_lt (Nat.lt_of_lt_of_le (by have := World.block_lt_of_cell? _ _ hw428_0; first | rwa [add_block] at this | exact this) GW432.out)) | (show (Addr.add _ _).block ≠ _; rw [add_block]; exact Nat.ne_of_lt (Nat.lt_of_lt_of_le (by have := World.block_lt_of_cell? _ _ hw428_0; first | rwa [add_block] at this | exact this) GW432.out)) | (dsimp only; exact Nat.ne_of_lt (Nat.lt_of_lt_of_le (by have := World.block_lt_of_cell? _ _ hw428_0; first | rwa [add_block] at this | exact this) GW432.out))) _).trans (((cell_far (p := ⟨gb432, _, none⟩) (by first | exact Nat.ne_of_lt (Nat.lt_of_lt_of_le (by have := World.block_lt_of_cell? _ _ hw428_0; first | rwa [add_block] at this | exact this) GW432.out) | (rw [add_block]; exact Nat.ne_of_lt (Nat.lt_of_lt_of_le (by have := World.block_lt_of_cell? _ _ hw428_0; first | rwa [add_block] at this | exact this) GW432.out)) | (show (Addr.add _ _).block ≠ _; rw [add_block]; exact Nat.ne_of_lt (Nat.lt_of_lt_of_le (by have := World.block_lt_of_cell? _ _ hw428_0; first | rwa [add_block] at this | exact this) GW432.out)) | (dsimp only; exact Nat.ne_of_lt (Nat.lt_of_lt_of_le (by have := World.block_lt_of_cell? _ _ hw428_0; first | rwa [add_block] at this | exact this) GW432.out))) _).trans (((cell_far (p := ⟨gb432, _, none⟩) (by first | exact Nat.ne_of_lt (Nat.lt_of_lt_of_le (by have := World.block_lt_of_cell? _ _ hw428_0; first | rwa [add_block] at this | exact this) GW432.out) | (rw [add_block]; exact Nat.ne_of_lt (Nat.lt_of_lt_of_le (by have := World.block_lt_of_cell? _ _ hw428_0; first | rwa [add_block] at this | exact this) GW432.out)) | (show (Addr.add _ _).block ≠ _; rw [add_block]; exact Nat.ne_of_lt (Nat.lt_of_lt_of_le (by have := World.block_lt_of_cell? _ _ hw428_0; first | rwa [add_block] at this | exact this) GW432.out)) | (dsimp only; exact Nat.ne_of_lt (Nat.lt_of_lt_of_le (by have := World.block_lt_of_cell? _ _ hw428_0; first | rwa [add_block] at this | exact this) GW432.out))) _).trans (hHeld.2.2.2.1)))))), ((cell_far (p := ⟨gb432, _, none⟩) (by first | exact Nat.ne_of_lt (Nat.lt_of_lt_of_le (by have := World.block_lt_of_cell? _ _ hw428_1; first | rwa [add_block] at this | exact this) GW432.out) | (rw [add_block]; exact Nat.ne_of_lt (Nat.lt_of_lt_of_le (by have := World.block_lt_of_cell? _ _ hw428_1; first | rwa [add_block] at this | exact this) GW432.out)) | (show (Addr.add _ _).block ≠ _; rw [add_block]; exact Nat.ne_of_lt (Nat.lt_of_lt_of_le (by have := World.block_lt_of_cell? _ _ hw428_1; first | rwa [add_block] at this | exact this) GW432.out)) | (dsimp only; exact Nat.ne_of_lt (Nat.lt_of_lt_of_le (by have := World.block_lt_of_cell? _ _ hw428_1; first | rwa [add_block] at this | exact this) GW432.out))) _).trans (((cell_far (p := ⟨gb432, _, none⟩) (by first | exact Nat.ne_of_lt (Nat.lt_of_lt_of_le (by have := World.block_lt_of_cell? _ _ hw428_1; first | rwa [add_block] at this | exact this) GW432.out) | (rw [add_block]; exact Nat.ne_of_lt (Nat.lt_of_lt_of_le (by have := World.block_lt_of_cell? _ _ hw428_1; first | rwa [add_block] at this | exact this) GW432.out)) | (show (Addr.add _ _).block ≠ _; rw [add_block]; exact Nat.ne_of_lt (Nat.lt_of_lt_of_le (by have := World.block_lt_of_cell? _ _ hw428_1; first | rwa [add_block] at this | exact this) GW432.out)) | (dsimp only; exact Nat.ne_of_lt (Nat.lt_of_lt_of_le (by have := World.block_lt_of_cell? _ _ hw428_1; first | rwa [add_block] at this | exact this) GW432.out))) _).trans (((cell_far (p := ⟨gb432, _, none⟩) (by first | exact Nat.ne_of_lt (Nat.lt_of_lt_of_le (by have := World.block_lt_of_cell? _ _ hw428_1; first | rwa [add_block] at this | exact this) GW432.out) | (rw [add_block]; exact Nat.ne_of_lt (Nat.lt_of_lt_of_le (by have := World.block_lt_of_cell? _ _ hw428_1; first | rwa [add_block] at this | exact this) GW432.out)) | (show (Addr.add _ _).block ≠ _; rw [add_block]; exact Nat.ne_of_lt (Nat.lt_of_lt_of_le (by have := World.block_lt_of_cell? _ _ hw428_1; first | rwa [add_block] at this | exact this) GW432.out)) | (dsimp only; exact Nat.ne_of_lt (Nat.lt_of_lt_of_le (by have := World.block_lt_of_cell? _ _ hw428_1; first | rwa [add_block] at this | exact this) GW432.out))) _).trans (hHeld.2.2.2.2.1)))))), ((cell_far (p := ⟨gb432, _, none⟩) (by first | exact Nat.ne_of_lt (Nat.lt_of_lt_of_le (by have := World.block_lt_of_cell? _ _ hw428_2; first | rwa [add_block] at this | exact this) GW432.out) | (rw [add_block]; exact Nat.ne_of_lt (Nat.lt_of_lt_of_le (by have := World.block_lt_of_cell? _ _ hw428_2; first | rwa [add_block] at this | exact this) GW432.out)) | (show (Addr.add _ _).block ≠ _; rw [add_block]; exact Nat.ne_of_lt (Nat.lt_of_lt_of_le (by have := World.block_lt_of_cell? _ _ hw428_2; first | rwa [add_block] at this | exact this) GW432.out)) | (dsimp only; exact Nat.ne_of_lt (Nat.lt_of_lt_of_le (by have := World.block_lt_of_cell? _ _ hw428_2; first | rwa [add_block] at this | exact this) GW432.out))) _).trans (((cell_far (p := ⟨gb432, _, none⟩) (by first | exact Nat.ne_of_lt (Nat.lt_of_lt_of_le (by have := World.block_lt_of_cell? _ _ hw428_2; first | rwa [add_block] at this | exact this) GW432.out) | (rw [add_block]; exact Nat.ne_of_lt (Nat.lt_of_lt_of_le (by have := World.block_lt_of_cell? _ _ hw428_2; first | rwa [add_block] at this | exact this) GW432.out)) | (show (Addr.add _ _).block ≠ _; rw [add_block]; exact Nat.ne_of_lt (Nat.lt_of_lt_of_le (by have := World.block_lt_of_cell? _ _ hw428_2; first | rwa [add_block] at this | exact this) GW432.out)) | (dsimp only; exact Nat.ne_of_lt (Nat.lt_of_lt_of_le (by have := World.block_lt_of_cell? _ _ hw428_2; first | rwa [add_block] at this | exact this) GW432.out))) _).trans (((cell_far (p := ⟨gb432, _, none⟩) (by first | exact Nat.ne_of_lt (Nat.lt_of_lt_of_le (by have := World.block_lt_of_cell? _ _ hw428_2; first | rwa [add_block] at this | exact this) GW432.out) | (rw [add_block]; exact Nat.ne_of_lt (Nat.lt_of_lt_of_le (by have := World.block_lt_of_cell? _ _ hw428_2; first | rwa [add_block] at this | exact this) GW432.out)) | (show (Addr.add _ _).block ≠ _; rw [add_block]; exact Nat.ne_of_lt (Nat.lt_of_lt_of_le (by have := World.block_lt_of_cell? _ _ hw428_2; first | rwa [add_block] at this | exact this) GW432.out)) | (dsimp only; exact Nat.ne_of_lt (Nat.lt_of_lt_of_le (by have := World.block_lt_of_cell? _ _ hw428_2; first | rwa [add_block] at this | exact this) GW432.out))) _).trans (hHeld.2.2.2.2.2.1)))))), ((cell_far (p := ⟨gb432, _, none⟩) (by first | exact Nat.ne_of_lt (Nat.lt_of_lt_of_le (by have := World.block_lt_of_cell? _ _ hw430_0; first | rwa [add_block] at this | exact this) GW432.out) | (rw [add_block]; exact Nat.ne_of_lt (Nat.lt_of_lt_of_le (by have := World.block_lt_of_cell? _ _ hw430_0; first | rwa [add_block] at this | exact this) GW432.out)) | (show (Addr.add _ _).block ≠ _; rw [add_block]; exact Nat.ne_of_lt (Nat.lt_of_lt_of_le (by have := World.block_lt_of_cell? _ _ hw430_0; first | rwa [add_block] at this | exact this) GW432.out)) | (dsimp only; exact Nat.ne_of_lt (Nat.lt_of_lt_of_le (by have := World.block_lt_of_cell? _ _ hw430_0; first | rwa [add_block] at this | exact this) GW432.out))) _).trans (((cell_far (p := ⟨gb432, _, none⟩) (by first | exact Nat.ne_of_lt (Nat.lt_of_lt_of_le (by have := World.block_lt_of_cell? _ _ hw430_0; first | rwa [add_block] at this | exact this) GW432.out) | (rw [add_block]; exact Nat.ne_of_lt (Nat.lt_of_lt_of_le (by have := World.block_lt_of_cell? _ _ hw430_0; first | rwa [add_block] at this | exact this) GW432.out)) | (show (Addr.add _ _).block ≠ _; rw [add_block]; exact Nat.ne_of_lt (Nat.lt_of_lt_of_le (by have := World.block_lt_of_cell? _ _ hw430_0; first | rwa [add_block] at this | exact this) GW432.out)) | (dsimp only; exact Nat.ne_of_lt (Nat.lt_of_lt_of_le (by have := World.block_lt_of_cell? _ _ hw430_0; first | rwa [add_block] at this | exact this) GW432.out))) _).trans (((cell_far (p := ⟨gb432, _, none⟩) (by first | exact Nat.ne_of_lt (Nat.lt_of_lt_of_le (by have := World.block_lt_of_cell? _ _ hw430_0; first | rwa [add_block] at this | exact this) GW432.out) | (rw [add_block]; exact Nat.ne_of_lt (Nat.lt_of_lt_of_le (by have := World.block_lt_of_cell? _ _ hw430_0; first | rwa [add_block] at this | exact this) GW432.out)) | (show (Addr.add _ _).block ≠ _; rw [add_block]; exact Nat.ne_of_lt (Nat.lt_of_lt_of_le (by have := World.block_lt_of_cell? _ _ hw430_0; first | rwa [add_block] at this | exact this) GW432.out)) | (dsimp only; exact Nat.ne_of_lt (Nat.lt_of_lt_of_le (by have := World.block_lt_of_cell? _ _ hw430_0; first | rwa [add_block] at this | exact this) GW432.out))) _).trans (hHeld.2.2.2.2.2.2.1)))))), ((cell_far (p := ⟨gb432, _, none⟩) (by first | exact Nat.ne_of_lt (Nat.lt_of_lt_of_le (by have := World.block_lt_of_cell? _ _ hw430_1; first | rwa [add_block] at this | exact this) GW432.out) | (rw [add_block]; exact Nat.ne_of_lt (Nat.lt_of_lt_of_le (by have := World.block_lt_of_cell? _ _ hw430_1; first | rwa [add_block] at this | exact this) GW432.out)) | (show (Addr.add _ _).block ≠ _; rw [add_block]; exact Nat.ne_of_lt (Nat.lt_of_lt_of_le (by have := World.block_lt_of_cell? _ _ hw430_1; first | rwa [add_block] at this | exact this) GW432.out)) | (dsimp only; exact Nat.ne_of_lt (Nat.lt_of_lt_of_le (by have := World.block_lt_of_cell? _ _ hw430_1; first | rwa [add_block] at this | exact this) GW432.out))) _).trans (((cell_far (p := ⟨gb432, _, none⟩) (by first | exact Nat.ne_of_lt (Nat.lt_of_lt_of_le (by have := World.block_lt_of_cell? _ _ hw430_1; first | rwa [add_block] at this | exact this) GW432.out) | (rw [add_block]; exact Nat.ne_of_lt (Nat.lt_of_lt_of_le (by have := World.block_lt_of_cell? _ _ hw430_1; first | rwa [add_block] at this | exact this) GW432.out)) | (show (Addr.add _ _).block ≠ _; rw [add_block]; exact Nat.ne_of_lt (Nat.lt_of_lt_of_le (by have := World.block_lt_of_cell? _ _ hw430_1; first | rwa [add_block] at this | exact this) GW432.out)) | (dsimp only; exact Nat.ne_of_lt (Nat.lt_of_lt_of_le (by have := World.block_lt_of_cell? _ _ hw430_1; first | rwa [add_block] at this | exact this) GW432.out))) _).trans (((cell_far (p := ⟨gb432, _, none⟩) (by first | exact Nat.ne_of_lt (Nat.lt_of_lt_of_le (by have := World.block_lt_of_cell? _ _ hw430_1; first | rwa [add_block] at this | exact this) GW432.out) | (rw [add_block]; exact Nat.ne_of_lt (Nat.lt_of_lt_of_le (by have := World.block_lt_of_cell? _ _ hw430_1; first | rwa [add_block] at this | exact this) GW432.out)) | (show (Addr.add _ _).block ≠ _; rw [add_block]; exact Nat.ne_of_lt (Nat.lt_of_lt_of_le (by have := World.block_lt_of_cell? _ _ hw430_1; first | rwa [add_block] at this | exact this) GW432.out)) | (dsimp only; exact Nat.ne_of_lt (Nat.lt_of_lt_of_le (by have := World.block_lt_of_cell? _ _ hw430_1; first | rwa [add_block] at this | exact this) GW432.out))) _).trans (hHeld.2.2.2.2.2.2.2.1)))))), ((cell_far (p := ⟨gb432, _, none⟩) (by first | exact Nat.ne_of_lt (Nat.lt_of_lt_of_le (by have := World.block_lt_of_cell? _ _ hw430_2; first | rwa [add_block] at this | exact this) GW432.out) | (rw [add_block]; exact Nat.ne_of_lt (Nat.lt_of_lt_of_le (by have := World.block_lt_of_cell? _ _ hw430_2; first | rwa [add_block] at this | exact this) GW432.out)) | (show (Addr.add _ _).block ≠ _; rw [add_block]; exact Nat.ne_of_lt (Nat.lt_of_lt_of_le (by have := World.block_lt_of_cell? _ _ hw430_2; first | rwa [add_block] at this | exact this) GW432.out)) | (dsimp only; exact Nat.ne_of_lt (Nat.lt_of_lt_of_le (by have := World.block_lt_of_cell? _ _ hw430_2; first | rwa [add_block] at this | exact this) GW432.out))) _).trans (((cell_far (p := ⟨gb432, _, none⟩) (by first | exact Nat.ne_of_lt (Nat.lt_of_lt_of_le (by have := World.block_lt_of_cell? _ _ hw430_2; first | rwa [add_block] at this | exact this) GW432.out) | (rw [add_block]; exact Nat.ne_of_lt (Nat.lt_of_lt_of_le (by have := World.block_lt_of_cell? _ _ hw430_2; first | rwa [add_block] at this | exact this) GW432.out)) | (show (Addr.add _ _).block ≠ _; rw [add_block]; exact Nat.ne_of_lt (Nat.lt_of_lt_of_le (by have := World.block_lt_of_cell? _ _ hw430_2; first | rwa [add_block] at this | exact this) GW432.out)) | (dsimp only; exact Nat.ne_of_lt (Nat.lt_of_lt_of_le (by have := World.block_lt_of_cell? _ _ hw430_2; first | rwa [add_block] at this | exact this) GW432.out))) _).trans (((cell_far (p := ⟨gb432, _, none⟩) (by first | exact Nat.ne_of_lt (Nat.lt_of_lt_of_le (by have := World.block_lt_of_cell? _ _ hw430_2; first | rwa [add_block] at this | exact this) GW432.out) | (rw [add_block]; exact Nat.ne_of_lt (Nat.lt_of_lt_of_le (by have := World.block_lt_of_cell? _ _ hw430_2; first | rwa [add_block] at this | exact this) GW432.out)) | (show (Addr.add _ _).block ≠ _; rw [add_block]; exact Nat.ne_of_lt (Nat.lt_of_lt_of_le (by have := World.block_lt_of_cell? _ _ hw430_2; first | rwa [add_block] at this | exact this) GW432.out)) | (dsimp only; exact Nat.ne_of_lt (Nat.lt_of_lt_of_le (by have := World.block_lt_of_cell? _ _ hw430_2; first | rwa [add_block] at this | exact this) GW432.out))) _).trans (hHeld.2.2.2.2.2.2.2.2))))))⟩ (fun hHeld => ?_)
           clear hK; clear K
           refine done_ (done_of HT_.out (by kernel_rfl)) ?_
           try go_wp2
           have n0_ : Aside0 (Kd.V k40 40 (((w52.setCell ⟨gb432, 0, none⟩ (.int .i64 t427)).setCell ⟨gb432, 1, none⟩ (.int .i64 t429)).setCell ⟨gb432, 2, none⟩ (.int .i64 t431)) w.heap.size (fun k_ => some k_ ≠ (.slice Ao32 x18_1.length co32 : Value).ownBlock ∧ k_ ≠ gb432) (.slice Ao30 x17_1.length co30) x17_1) := ⟨by (with_reducible repeat (first | apply Kd.V_alloc | apply Kd.V_drewN | apply Kd.V_drew)); exact Kd.V_mono (Kd.V_far (p := ⟨gb432, 2, none⟩) (Kd.V_far (p := ⟨gb432, 1, none⟩) (Kd.V_far (p := ⟨gb432, 0, none⟩) (Kd.V_mono HO_17.out (fun k_ hk => (⟨hk, hk.2⟩ : _ ∧ k_ ≠ gb432))) (fun _ hk => hk.2) (.int .i64 t427)) (fun _ hk => hk.2) (.int .i64 t429)) (fun _ hk => hk.2) (.int .i64 t431)) (fun _ hk => ⟨hk.1.1, hk.1.2⟩)⟩
           have n1_ : Aside0 (Kd.R k40 40 (((w52.setCell ⟨gb432, 0, none⟩ (.int .i64 t427)).setCell ⟨gb432, 1, none⟩ (.int .i64 t429)).setCell ⟨gb432, 2, none⟩ (.int .i64 t431)) w.heap.size (fun _ => True) (.slice Ao32 x18_1.length co32) x18_1) := ⟨by (with_reducible repeat (first | apply Kd.R_alloc | apply Kd.R_drewN | apply Kd.R_drew)); exact Kd.R_mono (Kd.R_far (p := ⟨gb432, 2, none⟩) (Kd.R_far (p := ⟨gb432, 1, none⟩) (Kd.R_far (p := ⟨gb432, 0, none⟩) (Kd.R_types HO_18.out BK432.out (by decide)) (fun _ hk => hk.2) (.int .i64 t427)) (fun _ hk => hk.2) (.int .i64 t429)) (fun _ hk => hk.2) (.int .i64 t431)) (fun _ hk => trivial)⟩
           have n2_ : Aside0 ((((w52.setCell ⟨gb432, 0, none⟩ (.int .i64 t427)).setCell ⟨gb432, 1, none⟩ (.int .i64 t429)).setCell ⟨gb432, 2, none⟩ (.int .i64 t431)).heap[gb432]? = some (.cells #[.int .i64 t427, .int .i64 t429, .int .i64 t431] 33 (0, 0))) := ⟨by (with_reducible repeat (first | refine blk_drewN ?_ _ | refine blk_drew ?_ | refine blk_alloc ?_ _)); refine blk_put (cs := #[.int .i64 t427, .int .i64 t429, .int .i64 0]) ?_ 2 _ rfl; (with_reducible repeat (first | refine blk_drewN ?_ _ | refine blk_drew ?_ | refine blk_alloc ?_ _)); refine blk_put (cs := #[.int .i64 t427, .int .i64 0, .int .i64 0]) ?_ 1 _ rfl; (with_reducible repeat (first | refine blk_drewN ?_ _ | refine blk_drew ?_ | refine blk_alloc ?_ _)); refine blk_put (cs := #[.int .i64 0, .int .i64 0, .int .i64 0]) ?_ 0 _ rfl; (with_reducible repeat (first | refine blk_drewN ?_ _ | refine blk_drew ?_ | refine blk_alloc ?_ _)); exact BK432.out⟩
           have n3_ : Aside0 (Below w.heap.size w (((w52.setCell ⟨gb432, 0, none⟩ (.int .i64 t427)).setCell ⟨gb432, 1, none⟩ (.int .i64 t429)).setCell ⟨gb432, 2, none⟩ (.int .i64 t431))) := ⟨mBs HB.out⟩
           (try clear HO_17); (try clear HO_18); (try clear BK432); (try clear HB)
           generalize (((w52.setCell ⟨gb432, 0, none⟩ (.int .i64 t427)).setCell ⟨gb432, 1, none⟩ (.int .i64 t429)).setCell ⟨gb432, 2, none⟩ (.int .i64 t431)) = w56 at n0_ n1_ n2_ n3_ ⊢
           have HO_17 := n0_
           have HO_18 := n1_
           have BK432 := n2_
           have HB := n3_
           clear n0_; clear n1_; clear n2_; clear n3_
           have n0_ := Aside0.mk (Kd.V_drew HO_17.out)
           have n1_ := Aside0.mk (Kd.R_drew HO_18.out)
           have n2_ := Aside0.mk (blk_drew BK432.out)
           have n3_ := Aside0.mk (below_drew1 HB.out)
           clear HO_17; clear HO_18; clear BK432; clear HB
           have HO_17 := n0_
           have HO_18 := n1_
           have BK432 := n2_
           have HB := n3_
           clear n0_; clear n1_; clear n2_; clear n3_
           refine start_ (n := 18) (S := fun w' => w'.cell? ⟨gb432, 0, none⟩ = some (.int .i64 t427) ∧ w'.cell? ⟨gb432, 1, none⟩ = some (.int .i64 t429) ∧ w'.cell? ⟨gb432, 2, none⟩ = some (.int .i64 t431)) (ds := []) #[false, false, false, false, false, false, false, false, false, false, false, false, false, false, false, false, false, false] (by kernel_rfl) rfl rfl ⟨(blk_cell BK432.out 0).trans rfl, (blk_cell BK432.out 1).trans rfl, (blk_cell BK432.out 2).trans rfl⟩ (fun hHeld => ?_); refine with_tabW prebendlaw16_ProfilePlays.tab12 prebendlaw16_ProfilePlays.bits12 (fun HT_ HW_ => ?_)
           generalize w56.drew = w57 at HO_17 HO_18 BK432 HB hHeld ⊢
           refine plan_ [(0, 115), (1, 116), (3, 118), (5, 120), (8, 123), (9, 124), (11, 126), (13, 128)] ?_
           iterate 8 (refine planP_ (v := ?_) (a' := ?_) rfl rfl (any_of HT_.out (by kernel_rfl)) (fun _ _ _ h => h) (Or.inl ⟨by rfl, ?_⟩) ?_ ?_; rotate_left; (intro w'; go_simp; with_reducible rfl); rotate_left; (simp only [Act.put, List.setIfInBounds_toArray, List.set_cons_zero, List.set_cons_succ, i64_w, i32_w]; rfl))
           refine planEnd_ ?_
           refine plan_ [(2, 117), (4, 119), (6, 121), (10, 125), (12, 127), (14, 129)] ?_
           iterate 6 (refine planT_ (v := ?_) (a' := ?_) rfl rfl (take_ofW HT_.out HW_.out (by kernel_rfl)) (fun _ _ _ h => h) (Or.inl ⟨by rfl, ?_⟩) hHeld ?_ ?_; rotate_left; (rintro w' ⟨s0, s1, s2⟩; go_simp; with_reducible rfl); rotate_left; (simp only [Act.put, List.setIfInBounds_toArray, List.set_cons_zero, List.set_cons_succ, i64_w, i32_w]; rfl))
           refine planEnd_ ?_
           refine one_ (i := 7) (N := some 122) #[true, true, true, true, true, true, true, true, true, true, true, true, true, true, true, false, false, false] rfl rfl (one_of HT_.out (by kernel_rfl)) (by decide) (fun K hK => ?_)
           refine goes_ Try.func22 (by kernel_rfl) rfl #[.slice Ao30 x17_1.length co30, .int .i64 t427, .int .i64 t429, .int .i64 t431] (by rfl) rfl rfl mt ?_
           with_reducible refine (profile_Take.calls kj28 _ _ x17_1 t427 t429 t431 t433 _ ?side1 ?side2 A48.out).mono ?_
           (case side1 => exact mC (Kd.V_reads' HO_17.out).2.2)
           (case side2 => exact (Kd.V_reads' HO_17.out).2.1)
           rintro e w58 ⟨v434, rfl, ho0, hb⟩
           refine ⟨_, rfl, ?_⟩
           have n0_ := Aside0.mk (Kd.V_below (mV HO_17.out) hb)
           have n1_ := Aside0.mk (Kd.R_below (mR HO_18.out) hb)
           have n2_ := Aside0.mk (Kd.V_lower (Kd.V_mono (ok' := fun k_ => some k_ ≠ (.slice Ao32 x18_1.length co32 : Value).ownBlock ∧ k_ ≠ gb432) ho0 (fun k_ hk_ => ⟨(Kd.fresh' (Kd.R_lt (mR HO_18.out)) k_ hk_), (Kd.freshB (g := gb432) (o := .cells #[.int .i64 t427, .int .i64 t429, .int .i64 t431] 33 (0, 0)) (mBK BK432.out) k_ hk_)⟩)) (below_size (mBs HB.out)))
           have n3_ := Aside0.mk (blk_below (g := gb432) (o := .cells #[.int .i64 t427, .int .i64 t429, .int .i64 t431] 33 (0, 0)) (mBK BK432.out) hb)
           have n4_ := Aside0.mk (below_step (mBs HB.out) hb)
           clear HO_17; clear HO_18; clear BK432; clear HB
           have HO_17 := n0_
           have HO_18 := n1_
           have HO435 := n2_
           have BK432 := n3_
           have HB := n4_
           clear n0_; clear n1_; clear n2_; clear n3_; clear n4_
           (try clear hb); (try clear hb2); (try clear hk); (try clear hi); (try clear ho0)
           refine hK.out _ _ ⟨(blk_cell BK432.out 0).trans rfl, (blk_cell BK432.out 1).trans rfl, (blk_cell BK432.out 2).trans rfl⟩ (fun hHeld => ?_)
           clear hK; clear K
           refine norm_ (a' := ?_) ?_ ?_
           rotate_left
           ·show Act.put _ (some 122) _ = _
            simp only [Act.put, List.setIfInBounds_toArray, List.set_cons_zero, List.set_cons_succ, i64_w, i32_w]
            rfl
           refine one_ (i := 15) (N := some 130) #[true, true, true, true, true, true, true, true, true, true, true, true, true, true, true, true, false, false] rfl rfl (one_of HT_.out (by kernel_rfl)) (by decide) (fun K hK => ?_)
           refine goes_ Try.func23 (by kernel_rfl) rfl #[.slice Ao32 x18_1.length co32, .int .i64 t427, .int .i64 t429, .int .i64 t431] (by rfl) rfl rfl mt ?_
           with_reducible refine (prebendref16_Take.calls kj28 _ _ x18_1 t427 t429 t431 t436 _ ?side1 ?side2 A49.out).mono ?_
           (case side1 => exact mC (Kd.R_reads' HO_18.out).2.2)
           (case side2 => exact (Kd.R_reads' HO_18.out).2.1)
           rintro e w59 ⟨v437, rfl, ho0, hb⟩
           refine ⟨_, rfl, ?_⟩
           have n0_ := Aside0.mk (Kd.V_elder' (mV HO_17.out) (Kd.R_base ho0) hb)
           have n1_ := Aside0.mk (Kd.R_elder' (mR HO_18.out) (Kd.R_base ho0) hb)
           have n2_ := Aside0.mk (Kd.V_elder' (mV HO435.out) (Kd.R_base ho0) hb)
           have n3_ := Aside0.mk (Kd.R_lower (Kd.R_new' ho0 (Kd.R_lt (mR HO_18.out))) (below_size (mBs HB.out)))
           have n4_ := Aside0.mk (blk_below (g := gb432) (o := .cells #[.int .i64 t427, .int .i64 t429, .int .i64 t431] 33 (0, 0)) (mBK BK432.out) hb)
           have n5_ := Aside0.mk (below_step (mBs HB.out) hb)
           clear HO_17; clear HO_18; clear HO435; clear BK432; clear HB
           have HO_17 := n0_
           have HO_18 := n1_
           have HO435 := n2_
           have HO438 := n3_
           have BK432 := n4_
           have HB := n5_
           clear n0_; clear n1_; clear n2_; clear n3_; clear n4_; clear n5_
           (try clear hb); (try clear hb2); (try clear hk); (try clear hi); (try clear ho0)
           refine hK.out _ _ ⟨(blk_cell BK432.out 0).trans rfl, (blk_cell BK432.out 1).trans rfl, (blk_cell BK432.out 2).trans rfl⟩ (fun hHeld => ?_)
           clear hK; clear K
           refine norm_ (a' := ?_) ?_ ?_
           rotate_left
           ·show Act.put _ (some 130) _ = _
            simp only [Act.put, List.setIfInBounds_toArray, List.set_cons_zero, List.set_cons_succ, i64_w, i32_w]
            rfl
           refine plan_ [(16, 17), (17, 18)] ?_
           iterate 2 (refine planP_ (v := ?_) (a' := ?_) rfl rfl (any_of HT_.out (by kernel_rfl)) (fun _ _ _ h => h) (Or.inl ⟨by rfl, ?_⟩) ?_ ?_; rotate_left; (intro w'; go_simp; with_reducible rfl); rotate_left; (simp only [Act.put, List.setIfInBounds_toArray, List.set_cons_zero, List.set_cons_succ, i64_w, i32_w]; rfl))
           refine planEnd_ ?_
           refine done_ (done_of HT_.out (by kernel_rfl)) ?_
           try go_wp2
           go_roundg kj28
           case measure => have := HK1.out; have := HJ19.out; have := HJ28.out; omega
           case rel => exact ⟨(t433), (t436), (wrap64 (x19_1 + 1)), ez, H', ⟨by have := HK1.out; have := HJ19.out; have := HJ28.out; omega⟩, ⟨by (with_reducible repeat (first | apply Kd.V_alloc | apply Kd.V_drewN | apply Kd.V_drew)); exact Kd.V_mono HO435.out (fun _ hk => hk.2)⟩, ⟨by (with_reducible repeat (first | apply Kd.R_alloc | apply Kd.R_drewN | apply Kd.R_drew)); exact Kd.R_mono HO438.out (fun _ hk => trivial)⟩, ⟨mBs HB.out⟩⟩
          ·rw [if_neg c44] at H
           exact absurd H (by simp)
         ·rw [if_neg c43] at H
          have c43b0 : decide (x19_1 < (l3.length : Int)) = false := decide_eq_false c43
          clear c43
          have H' := Aside0.mk H
          clear H
          go_wp2
          go_roundg kj28
          case measure => have := HK1.out; have := HJ19.out; have := HJ28.out; omega
          case rel => exact ⟨(x17_1), (x18_1), (wrap64 (x19_1 + 1)), ez, H', ⟨by have := HK1.out; have := HJ19.out; have := HJ28.out; omega⟩, ⟨mV HO_17.out⟩, ⟨mR HO_18.out⟩, ⟨mB HB.out⟩⟩
     ·replace c22 := Bool.eq_false_iff.mpr c22
      subst c22
      have H1 : ((prebendlaw16_awake.f kj19).bind fun t412 => (some t412)) = some r := by rw [if_neg (show ¬ (false = true) by decide)] at H; exact H
      clear H
      have H := H1
      clear H1
      replace H := Option.bind_eq_some_iff.mp H
      obtain ⟨t412, A600, H⟩ := H
      replace H : (some t412) = some r := H
      have A60 := Aside0.mk A600
      clear A600
      obtain rfl := Option.some.inj H
      go_wp2_with (first | ((with_reducible refine gate_callee (f := 24) rfl ?_); refine goesL_ (some 131) rfl rfl Try.func24 (by kernel_rfl) rfl #[] rfl mt ?_; (with_reducible refine (prebendlaw16_awake.calls kj19  t412 _ A60.out).mono ?_); rintro e w61 ⟨rfl, hb⟩; refine ⟨_, rfl, ?_⟩; have n0_ := Aside0.mk (Kd.V_below (mV HO_17.out) hb); have n1_ := Aside0.mk (Kd.R_below (mR HO_18.out) hb); have n2_ := Aside0.mk (below_step (mB HB.out) hb); clear HO_17; clear HO_18; clear HB; have HO_17 := n0_; have HO_18 := n1_; have HB := n2_; clear n0_ n1_ n2_; (try clear hb); (try clear hb2); (try clear hk); (try clear hi)))
      go_ret
      exact ⟨by first | rfl | (simp [errW_none, errW_some] <;> rfl) | (simp [*, errW_none, errW_some] <;> rfl), by repeat (first | (with_reducible first | exact HB.out | apply below_alloc | apply pw_below_drewN | apply below_drew1) | exact HB.out)⟩

/-- THE ONE PURE STATEMENT of prebendlaw16_ProfilePlays. -/
def prebendlaw16_ProfilePlays.Pure : Prop := ∀ (a0 : Int) (a1 : Int) (l2 : List (S38)) (l3 : List (S33)) (a4 : Int) (a5 : Int) (a6 : Int), (Lit.int .i64 a0).wf = true → (Lit.int .i64 a1).wf = true → (l2.length ≤ maxLen ∧ ∀ y ∈ l2, g38 y) → (l3.length ≤ maxLen ∧ ∀ y ∈ l3, g33 y) → (Lit.int .i64 a4).wf = true → (Lit.int .i64 a5).wf = true → (Lit.int .i64 a6).wf = true → ∃ k, prebendlaw16_ProfilePlays.f k a0 a1 l2 l3 a4 a5 a6 = some true
theorem prebendlaw16_ProfilePlays.walk (P : prebendlaw16_ProfilePlays.Pure) (a0 : Int) (a1 : Int) (A2 : Option Addr) (c2 : Nat) (l2 : List (S38)) (A3 : Option Addr) (c3 : Nat) (l3 : List (S33)) (a4 : Int) (a5 : Int) (a6 : Int) (w : World) (hr2 : Kd.C k38 w A2 l2.length l2) (hc2 : l2.length ≤ c2) (hr3 : Kd.C k33 w A3 l3.length l3) (hc3 : l3.length ≤ c3) (h0_ : (Lit.int .i64 a0).wf = true) (h1_ : (Lit.int .i64 a1).wf = true) (h2_ : (l2.length ≤ maxLen ∧ ∀ y ∈ l2, g38 y)) (h3_ : (l3.length ≤ maxLen ∧ ∀ y ∈ l3, g33 y)) (h4_ : (Lit.int .i64 a4).wf = true) (h5_ : (Lit.int .i64 a5).wf = true) (h6_ : (Lit.int .i64 a6).wf = true) :
  Calls Try.prog 3 #[.int .i64 a0, .int .i64 a1, .slice A2 l2.length c2, .slice A3 l3.length c3, .int .i64 a4, .int .i64 a5, .int .i64 a6] w fun e w' => e = .returned (.bool true) ∧ Below w.heap.size w w' := by
 obtain ⟨k, h⟩ := P a0 a1 l2 l3 a4 a5 a6 h0_ h1_ h2_ h3_ h4_ h5_ h6_
 refine (prebendlaw16_ProfilePlays.calls k a0 a1 A2 c2 l2 A3 c3 l3 a4 a5 a6 true w hr2 hc2 hr3 hc3 h).mono ?_
 rintro e w' ⟨rfl, hd⟩
 exact ⟨rfl, hd⟩

end Go.Proofs.Ytedpoahndddgfaa.PAll
end
