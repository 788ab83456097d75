/- Words, plain functions and contracts of the functions that the law of this claim reaches; no conditions. -/
import Derived.Test.YtlccomoiajnkmaaBDrawRound3
section
namespace Go.Proofs.Ytlccomoiajnkmaa.PAll
open Go.RowKit Go.Proofs.YtlccomoiajnkmaaW.PrintWords Go.Proofs.YtlccomoiajnkmaaW.PrintLast Go.Proofs.YtlccomoiajnkmaaW.PrintMore
attribute [local go_sem] max2_int min2_int max_two min_two max_three min_three max_four min_four   -- for this text's walks alone
set_option linter.unusedVariables false
set_option linter.unusedSimpArgs false

mutual
def prebendlaw11_DrawRound.l0 : Nat → Int → Int → Int → Int → List (S62) → List (S46) → Int → Option (Bool)
  | 0, _, _, _, _, _, _, _ => none
  | k + 1, x2, x3, x4, x5, x13, x14, x15 => if x15 < (x14.length : Int) then (if 0 ≤ x15 then (if ((rd_T46 x14 x15).f3) < 0 then ((prebendlaw11_awake.f k).bind fun t439 => (some t439)) else (if ((rd_T46 x14 x15).f4) < 0 then ((prebendlaw11_awake.f k).bind fun t441 => (some t441)) else (if ((rd_T46 x14 x15).f5) < 0 then ((prebendlaw11_awake.f k).bind fun t443 => (some t443)) else (if ((rd_T46 x14 x15).f3) > 1125899906842624 then ((prebendlaw11_awake.f k).bind fun t445 => (some t445)) else (if ((rd_T46 x14 x15).f4) > 1125899906842624 then ((prebendlaw11_awake.f k).bind fun t447 => (some t447)) else (if ((rd_T46 x14 x15).f5) > 1125899906842624 then ((prebendlaw11_awake.f k).bind fun t449 => (some t449)) else (prebendlaw11_DrawRound.l0 k x2 x3 x4 x5 x13 x14 (wrap64 (x15 + 1))))))))) else (none)) else ((draw_Draws.f k x13 x14 x2 x3 x4).bind fun bt450 => (if bt450.2 = 0 then (prebendlaw11_DrawRound.j1 k x3 x5 x14 bt450.1 (x3 == 0)) else (prebendlaw11_DrawRound.j1 k x3 x5 x14 bt450.1 true)))
def prebendlaw11_DrawRound.j1 : Nat → Int → Int → List (S46) → List (S37) → Bool → Option (Bool)
  | 0, _, _, _, _, _ => none
  | k + 1, x3, x5, x14, x16, x105 => if x105 = true then ((prebendlaw11_awake.f k).bind fun t454 => (some t454)) else ((draw_Lien.f k x16).bind fun t455 => ((ledger_Post.f k 0 x14 t455).bind fun bt458 => (if bt458.2.2 = 0 then (prebendlaw11_DrawRound.j2 k x3 x5 x14 x16 bt458.2.1 (bt458.1 != 0)) else (prebendlaw11_DrawRound.j2 k x3 x5 x14 x16 bt458.2.1 true))))
def prebendlaw11_DrawRound.j2 : Nat → Int → Int → List (S46) → List (S37) → List (S46) → Bool → Option (Bool)
  | 0, _, _, _, _, _, _ => none
  | k + 1, x3, x5, x14, x16, x19, x120 => if x120 = true then (some false) else ((draw_Charge.f k x16 x5).bind fun bt463 => (if bt463.2 = 0 then ((draw_Spend.f k x16 bt463.1).bind fun t468 => ((ledger_Post.f k 0 x19 t468).bind fun bt471 => (if bt471.2.2 = 0 then (prebendlaw11_DrawRound.j3 k x5 x14 bt463.1 bt471.2.1 ((bt471.2.1.length : Int) != (x14.length : Int))) else (prebendlaw11_DrawRound.j3 k x5 x14 bt463.1 bt471.2.1 true)))) else ((prebendlaw11_awake.f k).bind fun t467 => (if t467 = true then (if x5 < 0 then (some true) else (some (decide (x5 > x3)))) else (some false)))))
def prebendlaw11_DrawRound.j3 : Nat → Int → List (S46) → List (S37) → List (S46) → Bool → Option (Bool)
  | 0, _, _, _, _, _ => none
  | k + 1, x5, x14, x21, x24, x156 => if x156 = true then (some false) else (prebendlaw11_DrawRound.l1 k x5 x14 x21 x24 0 0 0)
def prebendlaw11_DrawRound.l1 : Nat → Int → List (S46) → List (S37) → List (S46) → Int → Int → Int → Option (Bool)
  | 0, _, _, _, _, _, _, _ => none
  | k + 1, x5, x14, x21, x24, x26, x27, x28 => if x28 < (x14.length : Int) then (if 0 ≤ x28 then (if x28 < (x24.length : Int) then (if ((rd_T46 x14 x28).f4) = ((rd_T46 x24 x28).f4) then (if (wrap64 (((rd_T46 x14 x28).f3) + ((rd_T46 x14 x28).f5))) = (wrap64 (((rd_T46 x24 x28).f3) + ((rd_T46 x24 x28).f5))) then (prebendlaw11_DrawRound.l1 k x5 x14 x21 x24 (wrap64 (x26 + ((rd_T46 x14 x28).f5))) (wrap64 (x27 + ((rd_T46 x24 x28).f5))) (wrap64 (x28 + 1))) else (some false)) else (some false)) else (none)) else (none)) else (if (wrap64 (x27 - x26)) = x5 then (if x5 = 0 then ((prebendlaw11_awake.f k).bind fun t484 => (some t484)) else ((draw_Back.f k x21).bind fun t485 => ((ledger_Post.f k 0 x24 t485).bind fun bt488 => ((prebendlaw11_awake.f k).bind fun t493 => (if t493 = true then (if bt488.2.2 = 0 then ((prebendref09_Same.f k bt488.2.1 x14).bind fun t494 => (some t494)) else (some false)) else (some false)))))) else (some false))
end
def prebendlaw11_DrawRound.f (k : Nat) (l0 : List (S62)) (l1 : List (S46)) (a2 : Int) (a3 : Int) (a4 : Int) (a5 : Int) : Option (Bool) := (prebendlaw11_few.f l0 l1).bind fun bt432 => (prebendlaw11_DrawRound.l0 k a2 a3 a4 a5 bt432.1 bt432.2 0)
theorem prebendlaw11_DrawRound.mono_l : ∀ k, (∀ y0 y1 y2 y3 y4 y5 y6, LeO (prebendlaw11_DrawRound.l0 k y0 y1 y2 y3 y4 y5 y6) (prebendlaw11_DrawRound.l0 (k + 1) y0 y1 y2 y3 y4 y5 y6)) ∧ (∀ y0 y1 y2 y3 y4, LeO (prebendlaw11_DrawRound.j1 k y0 y1 y2 y3 y4) (prebendlaw11_DrawRound.j1 (k + 1) y0 y1 y2 y3 y4)) ∧ (∀ y0 y1 y2 y3 y4 y5, LeO (prebendlaw11_DrawRound.j2 k y0 y1 y2 y3 y4 y5) (prebendlaw11_DrawRound.j2 (k + 1) y0 y1 y2 y3 y4 y5)) ∧ (∀ y0 y1 y2 y3 y4, LeO (prebendlaw11_DrawRound.j3 k y0 y1 y2 y3 y4) (prebendlaw11_DrawRound.j3 (k + 1) y0 y1 y2 y3 y4)) ∧ (∀ y0 y1 y2 y3 y4 y5 y6, LeO (prebendlaw11_DrawRound.l1 k y0 y1 y2 y3 y4 y5 y6) (prebendlaw11_DrawRound.l1 (k + 1) y0 y1 y2 y3 y4 y5 y6))
  | 0 => ⟨fun _ _ _ _ _ _ _ r h => by simp [prebendlaw11_DrawRound.l0] at h, fun _ _ _ _ _ r h => by simp [prebendlaw11_DrawRound.j1] at h, fun _ _ _ _ _ _ r h => by simp [prebendlaw11_DrawRound.j2] at h, fun _ _ _ _ _ r h => by simp [prebendlaw11_DrawRound.j3] at h, fun _ _ _ _ _ _ _ r h => by simp [prebendlaw11_DrawRound.l1] at h⟩
  | k + 1 => by
    obtain ⟨ih0, ih1, ih2, ih3, ih4⟩ := prebendlaw11_DrawRound.mono_l k
    refine ⟨?_, ?_, ?_, ?_, ?_⟩
    · intro y0 y1 y2 y3 y4 y5 y6
      unfold prebendlaw11_DrawRound.l0
      repeat' first
      | (with_reducible exact ih0 _ _ _ _ _ _ _)
      | (with_reducible exact ih1 _ _ _ _ _)
      | (with_reducible exact ih2 _ _ _ _ _ _)
      | (with_reducible exact ih3 _ _ _ _ _)
      | (with_reducible exact ih4 _ _ _ _ _ _ _)
      | (with_reducible exact draw_Back.mono _ _)
      | (with_reducible exact draw_Charge.mono _ _ _)
      | (with_reducible exact draw_Draws.mono _ _ _ _ _ _)
      | (with_reducible exact draw_Lien.mono _ _)
      | (with_reducible exact draw_Spend.mono _ _ _)
      | (with_reducible exact ledger_Post.mono _ _ _ _)
      | (with_reducible exact prebendlaw11_awake.mono _)
      | (with_reducible exact prebendref09_Same.mono _ _ _)
      | (with_reducible exact LeO.refl _)
      | (with_reducible exact LeO.none _)
      | (with_reducible refine LeO.ite ?_ ?_)
      | (with_reducible refine LeO.bind ?_ (fun _ => ?_))
      | exact ih0 _ _ _ _ _ _ _
      | exact ih1 _ _ _ _ _
      | exact ih2 _ _ _ _ _ _
      | exact ih3 _ _ _ _ _
      | exact ih4 _ _ _ _ _ _ _
      | exact draw_Back.mono _ _
      | exact draw_Charge.mono _ _ _
      | exact draw_Draws.mono _ _ _ _ _ _
      | exact draw_Lien.mono _ _
      | exact draw_Spend.mono _ _ _
      | exact ledger_Post.mono _ _ _ _
      | exact prebendlaw11_awake.mono _
      | exact prebendref09_Same.mono _ _ _
      | exact LeO.none _
      | refine LeO.ite ?_ ?_
      | refine LeO.bind ?_ (fun _ => ?_)
    · intro y0 y1 y2 y3 y4
      unfold prebendlaw11_DrawRound.j1
      repeat' first
      | (with_reducible exact ih0 _ _ _ _ _ _ _)
      | (with_reducible exact ih1 _ _ _ _ _)
      | (with_reducible exact ih2 _ _ _ _ _ _)
      | (with_reducible exact ih3 _ _ _ _ _)
      | (with_reducible exact ih4 _ _ _ _ _ _ _)
      | (with_reducible exact draw_Back.mono _ _)
      | (with_reducible exact draw_Charge.mono _ _ _)
      | (with_reducible exact draw_Draws.mono _ _ _ _ _ _)
      | (with_reducible exact draw_Lien.mono _ _)
      | (with_reducible exact draw_Spend.mono _ _ _)
      | (with_reducible exact ledger_Post.mono _ _ _ _)
      | (with_reducible exact prebendlaw11_awake.mono _)
      | (with_reducible exact prebendref09_Same.mono _ _ _)
      | (with_reducible exact LeO.refl _)
      | (with_reducible exact LeO.none _)
      | (with_reducible refine LeO.ite ?_ ?_)
      | (with_reducible refine LeO.bind ?_ (fun _ => ?_))
      | exact ih0 _ _ _ _ _ _ _
      | exact ih1 _ _ _ _ _
      | exact ih2 _ _ _ _ _ _
      | exact ih3 _ _ _ _ _
      | exact ih4 _ _ _ _ _ _ _
      | exact draw_Back.mono _ _
      | exact draw_Charge.mono _ _ _
      | exact draw_Draws.mono _ _ _ _ _ _
      | exact draw_Lien.mono _ _
      | exact draw_Spend.mono _ _ _
      | exact ledger_Post.mono _ _ _ _
      | exact prebendlaw11_awake.mono _
      | exact prebendref09_Same.mono _ _ _
      | exact LeO.none _
      | refine LeO.ite ?_ ?_
      | refine LeO.bind ?_ (fun _ => ?_)
    · intro y0 y1 y2 y3 y4 y5
      unfold prebendlaw11_DrawRound.j2
      repeat' first
      | (with_reducible exact ih0 _ _ _ _ _ _ _)
      | (with_reducible exact ih1 _ _ _ _ _)
      | (with_reducible exact ih2 _ _ _ _ _ _)
      | (with_reducible exact ih3 _ _ _ _ _)
      | (with_reducible exact ih4 _ _ _ _ _ _ _)
      | (with_reducible exact draw_Back.mono _ _)
      | (with_reducible exact draw_Charge.mono _ _ _)
      | (with_reducible exact draw_Draws.mono _ _ _ _ _ _)
      | (with_reducible exact draw_Lien.mono _ _)
      | (with_reducible exact draw_Spend.mono _ _ _)
      | (with_reducible exact ledger_Post.mono _ _ _ _)
      | (with_reducible exact prebendlaw11_awake.mono _)
      | (with_reducible exact prebendref09_Same.mono _ _ _)
      | (with_reducible exact LeO.refl _)
      | (with_reducible exact LeO.none _)
      | (with_reducible refine LeO.ite ?_ ?_)
      | (with_reducible refine LeO.bind ?_ (fun _ => ?_))
      | exact ih0 _ _ _ _ _ _ _
      | exact ih1 _ _ _ _ _
      | exact ih2 _ _ _ _ _ _
      | exact ih3 _ _ _ _ _
      | exact ih4 _ _ _ _ _ _ _
      | exact draw_Back.mono _ _
      | exact draw_Charge.mono _ _ _
      | exact draw_Draws.mono _ _ _ _ _ _
      | exact draw_Lien.mono _ _
      | exact draw_Spend.mono _ _ _
      | exact ledger_Post.mono _ _ _ _
      | exact prebendlaw11_awake.mono _
      | exact prebendref09_Same.mono _ _ _
      | exact LeO.none _
      | refine LeO.ite ?_ ?_
      | refine LeO.bind ?_ (fun _ => ?_)
    · intro y0 y1 y2 y3 y4
      unfold prebendlaw11_DrawRound.j3
      repeat' first
      | (with_reducible exact ih0 _ _ _ _ _ _ _)
      | (with_reducible exact ih1 _ _ _ _ _)
      | (with_reducible exact ih2 _ _ _ _ _ _)
      | (with_reducible exact ih3 _ _ _ _ _)
      | (with_reducible exact ih4 _ _ _ _ _ _ _)
      | (with_reducible exact draw_Back.mono _ _)
      | (with_reducible exact draw_Charge.mono _ _ _)
      | (with_reducible exact draw_Draws.mono _ _ _ _ _ _)
      | (with_reducible exact draw_Lien.mono _ _)
      | (with_reducible exact draw_Spend.mono _ _ _)
      | (with_reducible exact ledger_Post.mono _ _ _ _)
      | (with_reducible exact prebendlaw11_awake.mono _)
      | (with_reducible exact prebendref09_Same.mono _ _ _)
      | (with_reducible exact LeO.refl _)
      | (with_reducible exact LeO.none _)
      | (with_reducible refine LeO.ite ?_ ?_)
      | (with_reducible refine LeO.bind ?_ (fun _ => ?_))
      | exact ih0 _ _ _ _ _ _ _
      | exact ih1 _ _ _ _ _
      | exact ih2 _ _ _ _ _ _
      | exact ih3 _ _ _ _ _
      | exact ih4 _ _ _ _ _ _ _
      | exact draw_Back.mono _ _
      | exact draw_Charge.mono _ _ _
      | exact draw_Draws.mono _ _ _ _ _ _
      | exact draw_Lien.mono _ _
      | exact draw_Spend.mono _ _ _
      | exact ledger_Post.mono _ _ _ _
      | exact prebendlaw11_awake.mono _
      | exact prebendref09_Same.mono _ _ _
      | exact LeO.none _
      | refine LeO.ite ?_ ?_
      | refine LeO.bind ?_ (fun _ => ?_)
    · intro y0 y1 y2 y3 y4 y5 y6
      unfold prebendlaw11_DrawRound.l1
      repeat' first
      | (with_reducible exact ih0 _ _ _ _ _ _ _)
      | (with_reducible exact ih1 _ _ _ _ _)
      | (with_reducible exact ih2 _ _ _ _ _ _)
      | (with_reducible exact ih3 _ _ _ _ _)
      | (with_reducible exact ih4 _ _ _ _ _ _ _)
      | (with_reducible exact draw_Back.mono _ _)
      | (with_reducible exact draw_Charge.mono _ _ _)
      | (with_reducible exact draw_Draws.mono _ _ _ _ _ _)
      | (with_reducible exact draw_Lien.mono _ _)
      | (with_reducible exact draw_Spend.mono _ _ _)
      | (with_reducible exact ledger_Post.mono _ _ _ _)
      | (with_reducible exact prebendlaw11_awake.mono _)
      | (with_reducible exact prebendref09_Same.mono _ _ _)
      | (with_reducible exact LeO.refl _)
      | (with_reducible exact LeO.none _)
      | (with_reducible refine LeO.ite ?_ ?_)
      | (with_reducible refine LeO.bind ?_ (fun _ => ?_))
      | exact ih0 _ _ _ _ _ _ _
      | exact ih1 _ _ _ _ _
      | exact ih2 _ _ _ _ _ _
      | exact ih3 _ _ _ _ _
      | exact ih4 _ _ _ _ _ _ _
      | exact draw_Back.mono _ _
      | exact draw_Charge.mono _ _ _
      | exact draw_Draws.mono _ _ _ _ _ _
      | exact draw_Lien.mono _ _
      | exact draw_Spend.mono _ _ _
      | exact ledger_Post.mono _ _ _ _
      | exact prebendlaw11_awake.mono _
      | exact prebendref09_Same.mono _ _ _
      | exact LeO.none _
      | refine LeO.ite ?_ ?_
      | refine LeO.bind ?_ (fun _ => ?_)
theorem prebendlaw11_DrawRound.mono : ∀ a0 a1 a2 a3 a4 a5 k, LeO (prebendlaw11_DrawRound.f k a0 a1 a2 a3 a4 a5) (prebendlaw11_DrawRound.f (k + 1) a0 a1 a2 a3 a4 a5) := by
  intro a0 a1 a2 a3 a4 a5 k
  obtain ⟨ih0, ih1, ih2, ih3, ih4⟩ := prebendlaw11_DrawRound.mono_l k
  unfold prebendlaw11_DrawRound.f
  repeat' first
      | (with_reducible exact ih0 _ _ _ _ _ _ _)
      | (with_reducible exact ih1 _ _ _ _ _)
      | (with_reducible exact ih2 _ _ _ _ _ _)
      | (with_reducible exact ih3 _ _ _ _ _)
      | (with_reducible exact ih4 _ _ _ _ _ _ _)
      | (with_reducible exact draw_Back.mono _ _)
      | (with_reducible exact draw_Charge.mono _ _ _)
      | (with_reducible exact draw_Draws.mono _ _ _ _ _ _)
      | (with_reducible exact draw_Lien.mono _ _)
      | (with_reducible exact draw_Spend.mono _ _ _)
      | (with_reducible exact ledger_Post.mono _ _ _ _)
      | (with_reducible exact prebendlaw11_awake.mono _)
      | (with_reducible exact prebendref09_Same.mono _ _ _)
      | (with_reducible exact LeO.refl _)
      | (with_reducible exact LeO.none _)
      | (with_reducible refine LeO.ite ?_ ?_)
      | (with_reducible refine LeO.bind ?_ (fun _ => ?_))
      | exact ih0 _ _ _ _ _ _ _
      | exact ih1 _ _ _ _ _
      | exact ih2 _ _ _ _ _ _
      | exact ih3 _ _ _ _ _
      | exact ih4 _ _ _ _ _ _ _
      | exact draw_Back.mono _ _
      | exact draw_Charge.mono _ _ _
      | exact draw_Draws.mono _ _ _ _ _ _
      | exact draw_Lien.mono _ _
      | exact draw_Spend.mono _ _ _
      | exact ledger_Post.mono _ _ _ _
      | exact prebendlaw11_awake.mono _
      | exact prebendref09_Same.mono _ _ _
      | exact LeO.none _
      | refine LeO.ite ?_ ?_
      | refine LeO.bind ?_ (fun _ => ?_)
set_option maxHeartbeats 8000000 in
set_option maxRecDepth 100000 in
theorem prebendlaw11_DrawRound.calls (k : Nat) (A0 : Option Addr) (c0 : Nat) (l0 : List (S62)) (A1 : Option Addr) (c1 : Nat) (l1 : List (S46)) (a2 : Int) (a3 : Int) (a4 : Int) (a5 : Int) (r : Bool) (w : World) (hr0 : Kd.C k62 w A0 l0.length l0) (hc0 : l0.length ≤ c0) (hr1 : Kd.C k46 w A1 l1.length l1) (hc1 : l1.length ≤ c1) (h : prebendlaw11_DrawRound.f k l0 l1 a2 a3 a4 a5 = some r) :
    Calls Try.prog 7 #[.slice A0 l0.length c0, .slice A1 l1.length c1, .int .i64 a2, .int .i64 a3, .int .i64 a4, .int .i64 a5] w fun e w' => e = .returned (.bool r) ∧ Below w.heap.size w w' := by
  have HR0 := Aside0.mk hr0
  have HC0 := Aside0.mk hc0
  clear hr0 hc0
  have HR1 := Aside0.mk hr1
  have HC1 := Aside0.mk hc1
  clear hr1 hc1
  have HB := Aside0.mk (Below.refl w.heap.size w)
  have H : ((prebendlaw11_few.f l0 l1).bind fun bt432 => (prebendlaw11_DrawRound.l0 k a2 a3 a4 a5 bt432.1 bt432.2 0)) = some r := h
  clear h
  replace H := Option.bind_eq_some_iff.mp H
  obtain ⟨⟨t432, t435⟩, A70, H⟩ := H
  replace H : (prebendlaw11_DrawRound.l0 k a2 a3 a4 a5 t432 t435 0) = some r := H
  have A7 := Aside0.mk A70
  clear A70
  have H' := Aside0.mk H
  clear H
  go_enter Try.func7, Try.ntmps7
  go_wp2_with (first | (go_at_call 8; (with_reducible refine (prebendlaw11_few.calls (fun k_ => k_ < w.heap.size) _ _ l0 (fun k_ => k_ < w.heap.size) _ _ l1 t432 t435 _ ?side1 ?side2 A7.out).mono ?_); (case side1 => exact Kd.V_mk HC0.out (Kd.F_below (Kd.C_F k62_heap HR0.out) (by repeat (first | (with_reducible first | exact HB.out | apply below_alloc | apply pw_below_drewN | apply below_drew1) | exact HB.out)))); (case side2 => exact Kd.V_mk HC1.out (Kd.F_below (Kd.C_F k46_heap HR1.out) (by repeat (first | (with_reducible first | exact HB.out | apply below_alloc | apply pw_below_drewN | apply below_drew1) | exact HB.out)))); rintro e w8 ⟨v433, v436, rfl, ho0, ho1, hb⟩; have n0_ := Aside0.mk (Kd.V_lower (Kd.V_mono (ok' := fun k_ => True) ho0 (fun k_ hk_ => trivial)) (below_size (by repeat (first | (with_reducible first | exact HB.out | apply below_alloc | apply pw_below_drewN | apply below_drew1) | exact HB.out)))); have n1_ := Aside0.mk (Kd.V_lower (Kd.V_mono (ok' := fun k_ => True) ho1 (fun k_ hk_ => trivial)) (below_size (by repeat (first | (with_reducible first | exact HB.out | apply below_alloc | apply pw_below_drewN | apply below_drew1) | exact HB.out)))); have n2_ := Aside0.mk (below_step (by repeat (first | (with_reducible first | exact HB.out | apply below_alloc | apply pw_below_drewN | apply below_drew1) | exact HB.out)) hb); clear HB; have HO434 := n0_; have HO437 := n1_; have HB := n2_; clear n0_ n1_ n2_; (try clear hb); (try clear hb2); (try clear hk); (try clear hi); (try clear ho0); (try clear ho1)))
  repeat (go_quiet (first | (go_at_call 8; (with_reducible refine (prebendlaw11_few.calls (fun k_ => k_ < w.heap.size) _ _ l0 (fun k_ => k_ < w.heap.size) _ _ l1 t432 t435 _ ?side1 ?side2 A7.out).mono ?_); (case side1 => exact Kd.V_mk HC0.out (Kd.F_below (Kd.C_F k62_heap HR0.out) (by repeat (first | (with_reducible first | exact HB.out | apply below_alloc | apply pw_below_drewN | apply below_drew1) | exact HB.out)))); (case side2 => exact Kd.V_mk HC1.out (Kd.F_below (Kd.C_F k46_heap HR1.out) (by repeat (first | (with_reducible first | exact HB.out | apply below_alloc | apply pw_below_drewN | apply below_drew1) | exact HB.out)))); rintro e w8 ⟨v433, v436, rfl, ho0, ho1, hb⟩; have n0_ := Aside0.mk (Kd.V_lower (Kd.V_mono (ok' := fun k_ => True) ho0 (fun k_ hk_ => trivial)) (below_size (by repeat (first | (with_reducible first | exact HB.out | apply below_alloc | apply pw_below_drewN | apply below_drew1) | exact HB.out)))); have n1_ := Aside0.mk (Kd.V_lower (Kd.V_mono (ok' := fun k_ => True) ho1 (fun k_ hk_ => trivial)) (below_size (by repeat (first | (with_reducible first | exact HB.out | apply below_alloc | apply pw_below_drewN | apply below_drew1) | exact HB.out)))); have n2_ := Aside0.mk (below_step (by repeat (first | (with_reducible first | exact HB.out | apply below_alloc | apply pw_below_drewN | apply below_drew1) | exact HB.out)) hb); clear HB; have HO434 := n0_; have HO437 := n1_; have HB := n2_; clear n0_ n1_ n2_; (try clear hb); (try clear hb2); (try clear hk); (try clear hi); (try clear ho0); (try clear ho1))); try go_wp2_with (first | (go_at_call 8; (with_reducible refine (prebendlaw11_few.calls (fun k_ => k_ < w.heap.size) _ _ l0 (fun k_ => k_ < w.heap.size) _ _ l1 t432 t435 _ ?side1 ?side2 A7.out).mono ?_); (case side1 => exact Kd.V_mk HC0.out (Kd.F_below (Kd.C_F k62_heap HR0.out) (by repeat (first | (with_reducible first | exact HB.out | apply below_alloc | apply pw_below_drewN | apply below_drew1) | exact HB.out)))); (case side2 => exact Kd.V_mk HC1.out (Kd.F_below (Kd.C_F k46_heap HR1.out) (by repeat (first | (with_reducible first | exact HB.out | apply below_alloc | apply pw_below_drewN | apply below_drew1) | exact HB.out)))); rintro e w8 ⟨v433, v436, rfl, ho0, ho1, hb⟩; have n0_ := Aside0.mk (Kd.V_lower (Kd.V_mono (ok' := fun k_ => True) ho0 (fun k_ hk_ => trivial)) (below_size (by repeat (first | (with_reducible first | exact HB.out | apply below_alloc | apply pw_below_drewN | apply below_drew1) | exact HB.out)))); have n1_ := Aside0.mk (Kd.V_lower (Kd.V_mono (ok' := fun k_ => True) ho1 (fun k_ hk_ => trivial)) (below_size (by repeat (first | (with_reducible first | exact HB.out | apply below_alloc | apply pw_below_drewN | apply below_drew1) | exact HB.out)))); have n2_ := Aside0.mk (below_step (by repeat (first | (with_reducible first | exact HB.out | apply below_alloc | apply pw_below_drewN | apply below_drew1) | exact HB.out)) hb); clear HB; have HO434 := n0_; have HO437 := n1_; have HB := n2_; clear n0_ n1_ n2_; (try clear hb); (try clear hb2); (try clear hk); (try clear hi); (try clear ho0); (try clear ho1))))
  go_loopg [15] k (fun kq v15 w' => ∃ (x15_1 : Int), v15 = .int .i64 x15_1 ∧ Aside0 (prebendlaw11_DrawRound.l0 kq a2 a3 a4 a5 t432 t435 x15_1 = some r) ∧ Aside0 (kq ≤ k) ∧ Aside0 (Kd.V k62 62 w' w.heap.size (fun _ => True) v433 t432) ∧ Aside0 (Kd.V k46 46 w' w.heap.size (fun _ => True) v436 t435) ∧ Aside0 (Below w.heap.size w w'))
  case atStart => exact ⟨(0), (by first | rfl | (simp; done) | (simp [*]; done)), H', ⟨Nat.le_refl _⟩, ⟨by (with_reducible repeat (first | apply Kd.V_alloc | apply Kd.V_drewN | apply Kd.V_drew)); exact HO434.out⟩, ⟨by (with_reducible repeat (first | apply Kd.V_alloc | apply Kd.V_drewN | apply Kd.V_drew)); exact HO437.out⟩, ⟨by repeat (first | (with_reducible first | exact HB.out | apply below_alloc | apply pw_below_drewN | apply below_drew1) | exact HB.out)⟩⟩
  case round =>
    clear H'
    try clear c1
    try clear p2
    try clear c7
    obtain ⟨x15_1, rfl, HA, HK1, HO_13, HO_14, HB⟩ := hrel
    cases gk with
    | zero => exact absurd HA.out (by simp [prebendlaw11_DrawRound.l0])
    | succ k1 =>
      have H := HA.out
      clear HA
      simp only [prebendlaw11_DrawRound.l0] at H
      by_cases c9 : x15_1 < (t435.length : Int)
      · rw [if_pos c9] at H
        have c9b0 : decide (x15_1 < (t435.length : Int)) = true := decide_eq_true c9
        clear c9
        by_cases c10 : 0 ≤ x15_1
        · rw [if_pos c10] at H
          have c10b0 : decide (0 ≤ x15_1) = true := decide_eq_true c10
          clear c10
          by_cases c11 : ((rd_T46 t435 x15_1).f3) < 0
          · rw [if_pos c11] at H
            have c11b0 : decide (((rd_T46 t435 x15_1).f3) < 0) = true := decide_eq_true c11
            clear c11
            replace H := Option.bind_eq_some_iff.mp H
            obtain ⟨t439, A120, H⟩ := H
            replace H : (some t439) = some r := H
            have A12 := Aside0.mk A120
            clear A120
            obtain rfl := Option.some.inj H
            obtain ⟨Ao13, co13, eo13⟩ := Kd.V_slice HO_14.out
            subst eo13
            have p438 : 0 ≤ (x15_1 : Int) := of_decide_eq_true (by first | (with_reducible assumption) | assumption)
            have q438 : x15_1 < (t435.length : Int) := of_decide_eq_true (by first | (with_reducible assumption) | assumption)
            obtain ⟨ad438, e438, hx438_0, hx438_1, hx438_2, hx438_3, hx438_4, hx438_5⟩ := at_T46 (Kd.V_reads' HO_14.out).2.2 x15_1 p438 q438
            cases e438
            replace p438 := eq_true p438
            replace q438 := eq_true q438
            go_wp2_with (first | (go_at_call 11; (with_reducible refine (prebendlaw11_awake.calls k1  t439 _ A12.out).mono ?_); rintro e w14 ⟨rfl, hb⟩; have n0_ := Aside0.mk (Kd.V_below (by (with_reducible repeat (first | apply Kd.V_alloc | apply Kd.V_drewN | apply Kd.V_drew)); exact HO_13.out) hb); have n1_ := Aside0.mk (Kd.V_below (by (with_reducible repeat (first | apply Kd.V_alloc | apply Kd.V_drewN | apply Kd.V_drew)); exact HO_14.out) hb); have n2_ := Aside0.mk (below_step (by repeat (first | (with_reducible first | exact HB.out | apply below_alloc | apply pw_below_drewN | apply below_drew1) | exact HB.out)) hb); clear HO_13; clear HO_14; clear HB; have HO_13 := n0_; have HO_14 := n1_; have HB := n2_; clear n0_ n1_ n2_; (try clear hb); (try clear hb2); (try clear hk); (try clear hi)))
            repeat (go_quiet (first | (go_at_call 11; (with_reducible refine (prebendlaw11_awake.calls k1  t439 _ A12.out).mono ?_); rintro e w14 ⟨rfl, hb⟩; have n0_ := Aside0.mk (Kd.V_below (by (with_reducible repeat (first | apply Kd.V_alloc | apply Kd.V_drewN | apply Kd.V_drew)); exact HO_13.out) hb); have n1_ := Aside0.mk (Kd.V_below (by (with_reducible repeat (first | apply Kd.V_alloc | apply Kd.V_drewN | apply Kd.V_drew)); exact HO_14.out) hb); have n2_ := Aside0.mk (below_step (by repeat (first | (with_reducible first | exact HB.out | apply below_alloc | apply pw_below_drewN | apply below_drew1) | exact HB.out)) hb); clear HO_13; clear HO_14; clear HB; have HO_13 := n0_; have HO_14 := n1_; have HB := n2_; clear n0_ n1_ n2_; (try clear hb); (try clear hb2); (try clear hk); (try clear hi))); try go_wp2_with (first | (go_at_call 11; (with_reducible refine (prebendlaw11_awake.calls k1  t439 _ A12.out).mono ?_); rintro e w14 ⟨rfl, hb⟩; have n0_ := Aside0.mk (Kd.V_below (by (with_reducible repeat (first | apply Kd.V_alloc | apply Kd.V_drewN | apply Kd.V_drew)); exact HO_13.out) hb); have n1_ := Aside0.mk (Kd.V_below (by (with_reducible repeat (first | apply Kd.V_alloc | apply Kd.V_drewN | apply Kd.V_drew)); exact HO_14.out) hb); have n2_ := Aside0.mk (below_step (by repeat (first | (with_reducible first | exact HB.out | apply below_alloc | apply pw_below_drewN | apply below_drew1) | exact HB.out)) hb); clear HO_13; clear HO_14; clear HB; have HO_13 := n0_; have HO_14 := n1_; have HB := n2_; clear n0_ n1_ n2_; (try clear hb); (try clear hb2); (try clear hk); (try clear hi))))
            go_ret
            exact ⟨by first | rfl | (simp [errW_none, errW_some] <;> rfl) | (simp [*, errW_none, errW_some] <;> rfl), by repeat (first | (with_reducible first | exact HB.out | apply below_alloc | apply pw_below_drewN | apply below_drew1) | exact HB.out)⟩
          · rw [if_neg c11] at H
            have c11b0 : decide (((rd_T46 t435 x15_1).f3) < 0) = false := decide_eq_false c11
            clear c11
            by_cases c15 : ((rd_T46 t435 x15_1).f4) < 0
            · rw [if_pos c15] at H
              have c15b0 : decide (((rd_T46 t435 x15_1).f4) < 0) = true := decide_eq_true c15
              clear c15
              replace H := Option.bind_eq_some_iff.mp H
              obtain ⟨t441, A160, H⟩ := H
              replace H : (some t441) = some r := H
              have A16 := Aside0.mk A160
              clear A160
              obtain rfl := Option.some.inj H
              obtain ⟨Ao17, co17, eo17⟩ := Kd.V_slice HO_14.out
              subst eo17
              have p438 : 0 ≤ (x15_1 : Int) := of_decide_eq_true (by first | (with_reducible assumption) | assumption)
              have q438 : x15_1 < (t435.length : Int) := of_decide_eq_true (by first | (with_reducible assumption) | assumption)
              obtain ⟨ad438, e438, hx438_0, hx438_1, hx438_2, hx438_3, hx438_4, hx438_5⟩ := at_T46 (Kd.V_reads' HO_14.out).2.2 x15_1 p438 q438
              cases e438
              replace p438 := eq_true p438
              replace q438 := eq_true q438
              have p440 : 0 ≤ (x15_1 : Int) := of_decide_eq_true (by first | (with_reducible assumption) | assumption)
              have q440 : x15_1 < (t435.length : Int) := of_decide_eq_true (by first | (with_reducible assumption) | assumption)
              obtain ⟨ad440, e440, hx440_0, hx440_1, hx440_2, hx440_3, hx440_4, hx440_5⟩ := at_T46 (Kd.V_reads' HO_14.out).2.2 x15_1 p440 q440
              obtain rfl : ad438 = ad440 := (by injection e440)
              replace p440 := eq_true p440
              replace q440 := eq_true q440
              go_wp2_with (first | (go_at_call 11; (with_reducible refine (prebendlaw11_awake.calls k1  t441 _ A16.out).mono ?_); rintro e w18 ⟨rfl, hb⟩; have n0_ := Aside0.mk (Kd.V_below (by (with_reducible repeat (first | apply Kd.V_alloc | apply Kd.V_drewN | apply Kd.V_drew)); exact HO_13.out) hb); have n1_ := Aside0.mk (Kd.V_below (by (with_reducible repeat (first | apply Kd.V_alloc | apply Kd.V_drewN | apply Kd.V_drew)); exact HO_14.out) hb); have n2_ := Aside0.mk (below_step (by repeat (first | (with_reducible first | exact HB.out | apply below_alloc | apply pw_below_drewN | apply below_drew1) | exact HB.out)) hb); clear HO_13; clear HO_14; clear HB; have HO_13 := n0_; have HO_14 := n1_; have HB := n2_; clear n0_ n1_ n2_; (try clear hb); (try clear hb2); (try clear hk); (try clear hi)))
              repeat (go_quiet (first | (go_at_call 11; (with_reducible refine (prebendlaw11_awake.calls k1  t441 _ A16.out).mono ?_); rintro e w18 ⟨rfl, hb⟩; have n0_ := Aside0.mk (Kd.V_below (by (with_reducible repeat (first | apply Kd.V_alloc | apply Kd.V_drewN | apply Kd.V_drew)); exact HO_13.out) hb); have n1_ := Aside0.mk (Kd.V_below (by (with_reducible repeat (first | apply Kd.V_alloc | apply Kd.V_drewN | apply Kd.V_drew)); exact HO_14.out) hb); have n2_ := Aside0.mk (below_step (by repeat (first | (with_reducible first | exact HB.out | apply below_alloc | apply pw_below_drewN | apply below_drew1) | exact HB.out)) hb); clear HO_13; clear HO_14; clear HB; have HO_13 := n0_; have HO_14 := n1_; have HB := n2_; clear n0_ n1_ n2_; (try clear hb); (try clear hb2); (try clear hk); (try clear hi))); try go_wp2_with (first | (go_at_call 11; (with_reducible refine (prebendlaw11_awake.calls k1  t441 _ A16.out).mono ?_); rintro e w18 ⟨rfl, hb⟩; have n0_ := Aside0.mk (Kd.V_below (by (with_reducible repeat (first | apply Kd.V_alloc | apply Kd.V_drewN | apply Kd.V_drew)); exact HO_13.out) hb); have n1_ := Aside0.mk (Kd.V_below (by (with_reducible repeat (first | apply Kd.V_alloc | apply Kd.V_drewN | apply Kd.V_drew)); exact HO_14.out) hb); have n2_ := Aside0.mk (below_step (by repeat (first | (with_reducible first | exact HB.out | apply below_alloc | apply pw_below_drewN | apply below_drew1) | exact HB.out)) hb); clear HO_13; clear HO_14; clear HB; have HO_13 := n0_; have HO_14 := n1_; have HB := n2_; clear n0_ n1_ n2_; (try clear hb); (try clear hb2); (try clear hk); (try clear hi))))
              go_ret
              exact ⟨by first | rfl | (simp [errW_none, errW_some] <;> rfl) | (simp [*, errW_none, errW_some] <;> rfl), by repeat (first | (with_reducible first | exact HB.out | apply below_alloc | apply pw_below_drewN | apply below_drew1) | exact HB.out)⟩
            · rw [if_neg c15] at H
              have c15b0 : decide (((rd_T46 t435 x15_1).f4) < 0) = false := decide_eq_false c15
              clear c15
              by_cases c19 : ((rd_T46 t435 x15_1).f5) < 0
              · rw [if_pos c19] at H
                have c19b0 : decide (((rd_T46 t435 x15_1).f5) < 0) = true := decide_eq_true c19
                clear c19
                replace H := Option.bind_eq_some_iff.mp H
                obtain ⟨t443, A200, H⟩ := H
                replace H : (some t443) = some r := H
                have A20 := Aside0.mk A200
                clear A200
                obtain rfl := Option.some.inj H
                obtain ⟨Ao21, co21, eo21⟩ := Kd.V_slice HO_14.out
                subst eo21
                have p438 : 0 ≤ (x15_1 : Int) := of_decide_eq_true (by first | (with_reducible assumption) | assumption)
                have q438 : x15_1 < (t435.length : Int) := of_decide_eq_true (by first | (with_reducible assumption) | assumption)
                obtain ⟨ad438, e438, hx438_0, hx438_1, hx438_2, hx438_3, hx438_4, hx438_5⟩ := at_T46 (Kd.V_reads' HO_14.out).2.2 x15_1 p438 q438
                cases e438
                replace p438 := eq_true p438
                replace q438 := eq_true q438
                have p440 : 0 ≤ (x15_1 : Int) := of_decide_eq_true (by first | (with_reducible assumption) | assumption)
                have q440 : x15_1 < (t435.length : Int) := of_decide_eq_true (by first | (with_reducible assumption) | assumption)
                obtain ⟨ad440, e440, hx440_0, hx440_1, hx440_2, hx440_3, hx440_4, hx440_5⟩ := at_T46 (Kd.V_reads' HO_14.out).2.2 x15_1 p440 q440
                obtain rfl : ad438 = ad440 := (by injection e440)
                replace p440 := eq_true p440
                replace q440 := eq_true q440
                have p442 : 0 ≤ (x15_1 : Int) := of_decide_eq_true (by first | (with_reducible assumption) | assumption)
                have q442 : x15_1 < (t435.length : Int) := of_decide_eq_true (by first | (with_reducible assumption) | assumption)
                obtain ⟨ad442, e442, hx442_0, hx442_1, hx442_2, hx442_3, hx442_4, hx442_5⟩ := at_T46 (Kd.V_reads' HO_14.out).2.2 x15_1 p442 q442
                obtain rfl : ad438 = ad442 := (by injection e442)
                replace p442 := eq_true p442
                replace q442 := eq_true q442
                go_wp2_with (first | (go_at_call 11; (with_reducible refine (prebendlaw11_awake.calls k1  t443 _ A20.out).mono ?_); rintro e w22 ⟨rfl, hb⟩; have n0_ := Aside0.mk (Kd.V_below (by (with_reducible repeat (first | apply Kd.V_alloc | apply Kd.V_drewN | apply Kd.V_drew)); exact HO_13.out) hb); have n1_ := Aside0.mk (Kd.V_below (by (with_reducible repeat (first | apply Kd.V_alloc | apply Kd.V_drewN | apply Kd.V_drew)); exact HO_14.out) hb); have n2_ := Aside0.mk (below_step (by repeat (first | (with_reducible first | exact HB.out | apply below_alloc | apply pw_below_drewN | apply below_drew1) | exact HB.out)) hb); clear HO_13; clear HO_14; clear HB; have HO_13 := n0_; have HO_14 := n1_; have HB := n2_; clear n0_ n1_ n2_; (try clear hb); (try clear hb2); (try clear hk); (try clear hi)))
                repeat (go_quiet (first | (go_at_call 11; (with_reducible refine (prebendlaw11_awake.calls k1  t443 _ A20.out).mono ?_); rintro e w22 ⟨rfl, hb⟩; have n0_ := Aside0.mk (Kd.V_below (by (with_reducible repeat (first | apply Kd.V_alloc | apply Kd.V_drewN | apply Kd.V_drew)); exact HO_13.out) hb); have n1_ := Aside0.mk (Kd.V_below (by (with_reducible repeat (first | apply Kd.V_alloc | apply Kd.V_drewN | apply Kd.V_drew)); exact HO_14.out) hb); have n2_ := Aside0.mk (below_step (by repeat (first | (with_reducible first | exact HB.out | apply below_alloc | apply pw_below_drewN | apply below_drew1) | exact HB.out)) hb); clear HO_13; clear HO_14; clear HB; have HO_13 := n0_; have HO_14 := n1_; have HB := n2_; clear n0_ n1_ n2_; (try clear hb); (try clear hb2); (try clear hk); (try clear hi))); try go_wp2_with (first | (go_at_call 11; (with_reducible refine (prebendlaw11_awake.calls k1  t443 _ A20.out).mono ?_); rintro e w22 ⟨rfl, hb⟩; have n0_ := Aside0.mk (Kd.V_below (by (with_reducible repeat (first | apply Kd.V_alloc | apply Kd.V_drewN | apply Kd.V_drew)); exact HO_13.out) hb); have n1_ := Aside0.mk (Kd.V_below (by (with_reducible repeat (first | apply Kd.V_alloc | apply Kd.V_drewN | apply Kd.V_drew)); exact HO_14.out) hb); have n2_ := Aside0.mk (below_step (by repeat (first | (with_reducible first | exact HB.out | apply below_alloc | apply pw_below_drewN | apply below_drew1) | exact HB.out)) hb); clear HO_13; clear HO_14; clear HB; have HO_13 := n0_; have HO_14 := n1_; have HB := n2_; clear n0_ n1_ n2_; (try clear hb); (try clear hb2); (try clear hk); (try clear hi))))
                go_ret
                exact ⟨by first | rfl | (simp [errW_none, errW_some] <;> rfl) | (simp [*, errW_none, errW_some] <;> rfl), by repeat (first | (with_reducible first | exact HB.out | apply below_alloc | apply pw_below_drewN | apply below_drew1) | exact HB.out)⟩
              · rw [if_neg c19] at H
                have c19b0 : decide (((rd_T46 t435 x15_1).f5) < 0) = false := decide_eq_false c19
                clear c19
                by_cases c23 : ((rd_T46 t435 x15_1).f3) > 1125899906842624
                · rw [if_pos c23] at H
                  have c23b0 : decide (1125899906842624 < ((rd_T46 t435 x15_1).f3)) = true := decide_eq_true c23
                  clear c23
                  replace H := Option.bind_eq_some_iff.mp H
                  obtain ⟨t445, A240, H⟩ := H
                  replace H : (some t445) = some r := H
                  have A24 := Aside0.mk A240
                  clear A240
                  obtain rfl := Option.some.inj H
                  obtain ⟨Ao25, co25, eo25⟩ := Kd.V_slice HO_14.out
                  subst eo25
                  have p438 : 0 ≤ (x15_1 : Int) := of_decide_eq_true (by first | (with_reducible assumption) | assumption)
                  have q438 : x15_1 < (t435.length : Int) := of_decide_eq_true (by first | (with_reducible assumption) | assumption)
                  obtain ⟨ad438, e438, hx438_0, hx438_1, hx438_2, hx438_3, hx438_4, hx438_5⟩ := at_T46 (Kd.V_reads' HO_14.out).2.2 x15_1 p438 q438
                  cases e438
                  replace p438 := eq_true p438
                  replace q438 := eq_true q438
                  have p440 : 0 ≤ (x15_1 : Int) := of_decide_eq_true (by first | (with_reducible assumption) | assumption)
                  have q440 : x15_1 < (t435.length : Int) := of_decide_eq_true (by first | (with_reducible assumption) | assumption)
                  obtain ⟨ad440, e440, hx440_0, hx440_1, hx440_2, hx440_3, hx440_4, hx440_5⟩ := at_T46 (Kd.V_reads' HO_14.out).2.2 x15_1 p440 q440
                  obtain rfl : ad438 = ad440 := (by injection e440)
                  replace p440 := eq_true p440
                  replace q440 := eq_true q440
                  have p442 : 0 ≤ (x15_1 : Int) := of_decide_eq_true (by first | (with_reducible assumption) | assumption)
                  have q442 : x15_1 < (t435.length : Int) := of_decide_eq_true (by first | (with_reducible assumption) | assumption)
                  obtain ⟨ad442, e442, hx442_0, hx442_1, hx442_2, hx442_3, hx442_4, hx442_5⟩ := at_T46 (Kd.V_reads' HO_14.out).2.2 x15_1 p442 q442
                  obtain rfl : ad438 = ad442 := (by injection e442)
                  replace p442 := eq_true p442
                  replace q442 := eq_true q442
                  have p444 : 0 ≤ (x15_1 : Int) := of_decide_eq_true (by first | (with_reducible assumption) | assumption)
                  have q444 : x15_1 < (t435.length : Int) := of_decide_eq_true (by first | (with_reducible assumption) | assumption)
                  obtain ⟨ad444, e444, hx444_0, hx444_1, hx444_2, hx444_3, hx444_4, hx444_5⟩ := at_T46 (Kd.V_reads' HO_14.out).2.2 x15_1 p444 q444
                  obtain rfl : ad438 = ad444 := (by injection e444)
                  replace p444 := eq_true p444
                  replace q444 := eq_true q444
                  go_wp2_with (first | (go_at_call 11; (with_reducible refine (prebendlaw11_awake.calls k1  t445 _ A24.out).mono ?_); rintro e w26 ⟨rfl, hb⟩; have n0_ := Aside0.mk (Kd.V_below (by (with_reducible repeat (first | apply Kd.V_alloc | apply Kd.V_drewN | apply Kd.V_drew)); exact HO_13.out) hb); have n1_ := Aside0.mk (Kd.V_below (by (with_reducible repeat (first | apply Kd.V_alloc | apply Kd.V_drewN | apply Kd.V_drew)); exact HO_14.out) hb); have n2_ := Aside0.mk (below_step (by repeat (first | (with_reducible first | exact HB.out | apply below_alloc | apply pw_below_drewN | apply below_drew1) | exact HB.out)) hb); clear HO_13; clear HO_14; clear HB; have HO_13 := n0_; have HO_14 := n1_; have HB := n2_; clear n0_ n1_ n2_; (try clear hb); (try clear hb2); (try clear hk); (try clear hi)))
                  repeat (go_quiet (first | (go_at_call 11; (with_reducible refine (prebendlaw11_awake.calls k1  t445 _ A24.out).mono ?_); rintro e w26 ⟨rfl, hb⟩; have n0_ := Aside0.mk (Kd.V_below (by (with_reducible repeat (first | apply Kd.V_alloc | apply Kd.V_drewN | apply Kd.V_drew)); exact HO_13.out) hb); have n1_ := Aside0.mk (Kd.V_below (by (with_reducible repeat (first | apply Kd.V_alloc | apply Kd.V_drewN | apply Kd.V_drew)); exact HO_14.out) hb); have n2_ := Aside0.mk (below_step (by repeat (first | (with_reducible first | exact HB.out | apply below_alloc | apply pw_below_drewN | apply below_drew1) | exact HB.out)) hb); clear HO_13; clear HO_14; clear HB; have HO_13 := n0_; have HO_14 := n1_; have HB := n2_; clear n0_ n1_ n2_; (try clear hb); (try clear hb2); (try clear hk); (try clear hi))); try go_wp2_with (first | (go_at_call 11; (with_reducible refine (prebendlaw11_awake.calls k1  t445 _ A24.out).mono ?_); rintro e w26 ⟨rfl, hb⟩; have n0_ := Aside0.mk (Kd.V_below (by (with_reducible repeat (first | apply Kd.V_alloc | apply Kd.V_drewN | apply Kd.V_drew)); exact HO_13.out) hb); have n1_ := Aside0.mk (Kd.V_below (by (with_reducible repeat (first | apply Kd.V_alloc | apply Kd.V_drewN | apply Kd.V_drew)); exact HO_14.out) hb); have n2_ := Aside0.mk (below_step (by repeat (first | (with_reducible first | exact HB.out | apply below_alloc | apply pw_below_drewN | apply below_drew1) | exact HB.out)) hb); clear HO_13; clear HO_14; clear HB; have HO_13 := n0_; have HO_14 := n1_; have HB := n2_; clear n0_ n1_ n2_; (try clear hb); (try clear hb2); (try clear hk); (try clear hi))))
                  go_ret
                  exact ⟨by first | rfl | (simp [errW_none, errW_some] <;> rfl) | (simp [*, errW_none, errW_some] <;> rfl), by repeat (first | (with_reducible first | exact HB.out | apply below_alloc | apply pw_below_drewN | apply below_drew1) | exact HB.out)⟩
                · rw [if_neg c23] at H
                  have c23b0 : decide (1125899906842624 < ((rd_T46 t435 x15_1).f3)) = false := decide_eq_false c23
                  clear c23
                  by_cases c27 : ((rd_T46 t435 x15_1).f4) > 1125899906842624
                  · rw [if_pos c27] at H
                    have c27b0 : decide (1125899906842624 < ((rd_T46 t435 x15_1).f4)) = true := decide_eq_true c27
                    clear c27
                    replace H := Option.bind_eq_some_iff.mp H
                    obtain ⟨t447, A280, H⟩ := H
                    replace H : (some t447) = some r := H
                    have A28 := Aside0.mk A280
                    clear A280
                    obtain rfl := Option.some.inj H
                    obtain ⟨Ao29, co29, eo29⟩ := Kd.V_slice HO_14.out
                    subst eo29
                    have p438 : 0 ≤ (x15_1 : Int) := of_decide_eq_true (by first | (with_reducible assumption) | assumption)
                    have q438 : x15_1 < (t435.length : Int) := of_decide_eq_true (by first | (with_reducible assumption) | assumption)
                    obtain ⟨ad438, e438, hx438_0, hx438_1, hx438_2, hx438_3, hx438_4, hx438_5⟩ := at_T46 (Kd.V_reads' HO_14.out).2.2 x15_1 p438 q438
                    cases e438
                    replace p438 := eq_true p438
                    replace q438 := eq_true q438
                    have p440 : 0 ≤ (x15_1 : Int) := of_decide_eq_true (by first | (with_reducible assumption) | assumption)
                    have q440 : x15_1 < (t435.length : Int) := of_decide_eq_true (by first | (with_reducible assumption) | assumption)
                    obtain ⟨ad440, e440, hx440_0, hx440_1, hx440_2, hx440_3, hx440_4, hx440_5⟩ := at_T46 (Kd.V_reads' HO_14.out).2.2 x15_1 p440 q440
                    obtain rfl : ad438 = ad440 := (by injection e440)
                    replace p440 := eq_true p440
                    replace q440 := eq_true q440
                    have p442 : 0 ≤ (x15_1 : Int) := of_decide_eq_true (by first | (with_reducible assumption) | assumption)
                    have q442 : x15_1 < (t435.length : Int) := of_decide_eq_true (by first | (with_reducible assumption) | assumption)
                    obtain ⟨ad442, e442, hx442_0, hx442_1, hx442_2, hx442_3, hx442_4, hx442_5⟩ := at_T46 (Kd.V_reads' HO_14.out).2.2 x15_1 p442 q442
                    obtain rfl : ad438 = ad442 := (by injection e442)
                    replace p442 := eq_true p442
                    replace q442 := eq_true q442
                    have p444 : 0 ≤ (x15_1 : Int) := of_decide_eq_true (by first | (with_reducible assumption) | assumption)
                    have q444 : x15_1 < (t435.length : Int) := of_decide_eq_true (by first | (with_reducible assumption) | assumption)
                    obtain ⟨ad444, e444, hx444_0, hx444_1, hx444_2, hx444_3, hx444_4, hx444_5⟩ := at_T46 (Kd.V_reads' HO_14.out).2.2 x15_1 p444 q444
                    obtain rfl : ad438 = ad444 := (by injection e444)
                    replace p444 := eq_true p444
                    replace q444 := eq_true q444
                    have p446 : 0 ≤ (x15_1 : Int) := of_decide_eq_true (by first | (with_reducible assumption) | assumption)
                    have q446 : x15_1 < (t435.length : Int) := of_decide_eq_true (by first | (with_reducible assumption) | assumption)
                    obtain ⟨ad446, e446, hx446_0, hx446_1, hx446_2, hx446_3, hx446_4, hx446_5⟩ := at_T46 (Kd.V_reads' HO_14.out).2.2 x15_1 p446 q446
                    obtain rfl : ad438 = ad446 := (by injection e446)
                    replace p446 := eq_true p446
                    replace q446 := eq_true q446
                    go_wp2_with (first | (go_at_call 11; (with_reducible refine (prebendlaw11_awake.calls k1  t447 _ A28.out).mono ?_); rintro e w30 ⟨rfl, hb⟩; have n0_ := Aside0.mk (Kd.V_below (by (with_reducible repeat (first | apply Kd.V_alloc | apply Kd.V_drewN | apply Kd.V_drew)); exact HO_13.out) hb); have n1_ := Aside0.mk (Kd.V_below (by (with_reducible repeat (first | apply Kd.V_alloc | apply Kd.V_drewN | apply Kd.V_drew)); exact HO_14.out) hb); have n2_ := Aside0.mk (below_step (by repeat (first | (with_reducible first | exact HB.out | apply below_alloc | apply pw_below_drewN | apply below_drew1) | exact HB.out)) hb); clear HO_13; clear HO_14; clear HB; have HO_13 := n0_; have HO_14 := n1_; have HB := n2_; clear n0_ n1_ n2_; (try clear hb); (try clear hb2); (try clear hk); (try clear hi)))
                    repeat (go_quiet (first | (go_at_call 11; (with_reducible refine (prebendlaw11_awake.calls k1  t447 _ A28.out).mono ?_); rintro e w30 ⟨rfl, hb⟩; have n0_ := Aside0.mk (Kd.V_below (by (with_reducible repeat (first | apply Kd.V_alloc | apply Kd.V_drewN | apply Kd.V_drew)); exact HO_13.out) hb); have n1_ := Aside0.mk (Kd.V_below (by (with_reducible repeat (first | apply Kd.V_alloc | apply Kd.V_drewN | apply Kd.V_drew)); exact HO_14.out) hb); have n2_ := Aside0.mk (below_step (by repeat (first | (with_reducible first | exact HB.out | apply below_alloc | apply pw_below_drewN | apply below_drew1) | exact HB.out)) hb); clear HO_13; clear HO_14; clear HB; have HO_13 := n0_; have HO_14 := n1_; have HB := n2_; clear n0_ n1_ n2_; (try clear hb); (try clear hb2); (try clear hk); (try clear hi))); try go_wp2_with (first | (go_at_call 11; (with_reducible refine (prebendlaw11_awake.calls k1  t447 _ A28.out).mono ?_); rintro e w30 ⟨rfl, hb⟩; have n0_ := Aside0.mk (Kd.V_below (by (with_reducible repeat (first | apply Kd.V_alloc | apply Kd.V_drewN | apply Kd.V_drew)); exact HO_13.out) hb); have n1_ := Aside0.mk (Kd.V_below (by (with_reducible repeat (first | apply Kd.V_alloc | apply Kd.V_drewN | apply Kd.V_drew)); exact HO_14.out) hb); have n2_ := Aside0.mk (below_step (by repeat (first | (with_reducible first | exact HB.out | apply below_alloc | apply pw_below_drewN | apply below_drew1) | exact HB.out)) hb); clear HO_13; clear HO_14; clear HB; have HO_13 := n0_; have HO_14 := n1_; have HB := n2_; clear n0_ n1_ n2_; (try clear hb); (try clear hb2); (try clear hk); (try clear hi))))
                    go_ret
                    exact ⟨by first | rfl | (simp [errW_none, errW_some] <;> rfl) | (simp [*, errW_none, errW_some] <;> rfl), by repeat (first | (with_reducible first | exact HB.out | apply below_alloc | apply pw_below_drewN | apply below_drew1) | exact HB.out)⟩
                  · rw [if_neg c27] at H
                    have c27b0 : decide (1125899906842624 < ((rd_T46 t435 x15_1).f4)) = false := decide_eq_false c27
                    clear c27
                    by_cases c31 : ((rd_T46 t435 x15_1).f5) > 1125899906842624
                    · rw [if_pos c31] at H
                      have c31b0 : decide (1125899906842624 < ((rd_T46 t435 x15_1).f5)) = true := decide_eq_true c31
                      clear c31
                      replace H := Option.bind_eq_some_iff.mp H
                      obtain ⟨t449, A320, H⟩ := H
                      replace H : (some t449) = some r := H
                      have A32 := Aside0.mk A320
                      clear A320
                      obtain rfl := Option.some.inj H
                      obtain ⟨Ao33, co33, eo33⟩ := Kd.V_slice HO_14.out
                      subst eo33
                      have p438 : 0 ≤ (x15_1 : Int) := of_decide_eq_true (by first | (with_reducible assumption) | assumption)
                      have q438 : x15_1 < (t435.length : Int) := of_decide_eq_true (by first | (with_reducible assumption) | assumption)
                      obtain ⟨ad438, e438, hx438_0, hx438_1, hx438_2, hx438_3, hx438_4, hx438_5⟩ := at_T46 (Kd.V_reads' HO_14.out).2.2 x15_1 p438 q438
                      cases e438
                      replace p438 := eq_true p438
                      replace q438 := eq_true q438
                      have p440 : 0 ≤ (x15_1 : Int) := of_decide_eq_true (by first | (with_reducible assumption) | assumption)
                      have q440 : x15_1 < (t435.length : Int) := of_decide_eq_true (by first | (with_reducible assumption) | assumption)
                      obtain ⟨ad440, e440, hx440_0, hx440_1, hx440_2, hx440_3, hx440_4, hx440_5⟩ := at_T46 (Kd.V_reads' HO_14.out).2.2 x15_1 p440 q440
                      obtain rfl : ad438 = ad440 := (by injection e440)
                      replace p440 := eq_true p440
                      replace q440 := eq_true q440
                      have p442 : 0 ≤ (x15_1 : Int) := of_decide_eq_true (by first | (with_reducible assumption) | assumption)
                      have q442 : x15_1 < (t435.length : Int) := of_decide_eq_true (by first | (with_reducible assumption) | assumption)
                      obtain ⟨ad442, e442, hx442_0, hx442_1, hx442_2, hx442_3, hx442_4, hx442_5⟩ := at_T46 (Kd.V_reads' HO_14.out).2.2 x15_1 p442 q442
                      obtain rfl : ad438 = ad442 := (by injection e442)
                      replace p442 := eq_true p442
                      replace q442 := eq_true q442
                      have p444 : 0 ≤ (x15_1 : Int) := of_decide_eq_true (by first | (with_reducible assumption) | assumption)
                      have q444 : x15_1 < (t435.length : Int) := of_decide_eq_true (by first | (with_reducible assumption) | assumption)
                      obtain ⟨ad444, e444, hx444_0, hx444_1, hx444_2, hx444_3, hx444_4, hx444_5⟩ := at_T46 (Kd.V_reads' HO_14.out).2.2 x15_1 p444 q444
                      obtain rfl : ad438 = ad444 := (by injection e444)
                      replace p444 := eq_true p444
                      replace q444 := eq_true q444
                      have p446 : 0 ≤ (x15_1 : Int) := of_decide_eq_true (by first | (with_reducible assumption) | assumption)
                      have q446 : x15_1 < (t435.length : Int) := of_decide_eq_true (by first | (with_reducible assumption) | assumption)
                      obtain ⟨ad446, e446, hx446_0, hx446_1, hx446_2, hx446_3, hx446_4, hx446_5⟩ := at_T46 (Kd.V_reads' HO_14.out).2.2 x15_1 p446 q446
                      obtain rfl : ad438 = ad446 := (by injection e446)
                      replace p446 := eq_true p446
                      replace q446 := eq_true q446
                      have p448 : 0 ≤ (x15_1 : Int) := of_decide_eq_true (by first | (with_reducible assumption) | assumption)
                      have q448 : x15_1 < (t435.length : Int) := of_decide_eq_true (by first | (with_reducible assumption) | assumption)
                      obtain ⟨ad448, e448, hx448_0, hx448_1, hx448_2, hx448_3, hx448_4, hx448_5⟩ := at_T46 (Kd.V_reads' HO_14.out).2.2 x15_1 p448 q448
                      obtain rfl : ad438 = ad448 := (by injection e448)
                      replace p448 := eq_true p448
                      replace q448 := eq_true q448
                      go_wp2_with (first | (go_at_call 11; (with_reducible refine (prebendlaw11_awake.calls k1  t449 _ A32.out).mono ?_); rintro e w34 ⟨rfl, hb⟩; have n0_ := Aside0.mk (Kd.V_below (by (with_reducible repeat (first | apply Kd.V_alloc | apply Kd.V_drewN | apply Kd.V_drew)); exact HO_13.out) hb); have n1_ := Aside0.mk (Kd.V_below (by (with_reducible repeat (first | apply Kd.V_alloc | apply Kd.V_drewN | apply Kd.V_drew)); exact HO_14.out) hb); have n2_ := Aside0.mk (below_step (by repeat (first | (with_reducible first | exact HB.out | apply below_alloc | apply pw_below_drewN | apply below_drew1) | exact HB.out)) hb); clear HO_13; clear HO_14; clear HB; have HO_13 := n0_; have HO_14 := n1_; have HB := n2_; clear n0_ n1_ n2_; (try clear hb); (try clear hb2); (try clear hk); (try clear hi)))
                      repeat (go_quiet (first | (go_at_call 11; (with_reducible refine (prebendlaw11_awake.calls k1  t449 _ A32.out).mono ?_); rintro e w34 ⟨rfl, hb⟩; have n0_ := Aside0.mk (Kd.V_below (by (with_reducible repeat (first | apply Kd.V_alloc | apply Kd.V_drewN | apply Kd.V_drew)); exact HO_13.out) hb); have n1_ := Aside0.mk (Kd.V_below (by (with_reducible repeat (first | apply Kd.V_alloc | apply Kd.V_drewN | apply Kd.V_drew)); exact HO_14.out) hb); have n2_ := Aside0.mk (below_step (by repeat (first | (with_reducible first | exact HB.out | apply below_alloc | apply pw_below_drewN | apply below_drew1) | exact HB.out)) hb); clear HO_13; clear HO_14; clear HB; have HO_13 := n0_; have HO_14 := n1_; have HB := n2_; clear n0_ n1_ n2_; (try clear hb); (try clear hb2); (try clear hk); (try clear hi))); try go_wp2_with (first | (go_at_call 11; (with_reducible refine (prebendlaw11_awake.calls k1  t449 _ A32.out).mono ?_); rintro e w34 ⟨rfl, hb⟩; have n0_ := Aside0.mk (Kd.V_below (by (with_reducible repeat (first | apply Kd.V_alloc | apply Kd.V_drewN | apply Kd.V_drew)); exact HO_13.out) hb); have n1_ := Aside0.mk (Kd.V_below (by (with_reducible repeat (first | apply Kd.V_alloc | apply Kd.V_drewN | apply Kd.V_drew)); exact HO_14.out) hb); have n2_ := Aside0.mk (below_step (by repeat (first | (with_reducible first | exact HB.out | apply below_alloc | apply pw_below_drewN | apply below_drew1) | exact HB.out)) hb); clear HO_13; clear HO_14; clear HB; have HO_13 := n0_; have HO_14 := n1_; have HB := n2_; clear n0_ n1_ n2_; (try clear hb); (try clear hb2); (try clear hk); (try clear hi))))
                      go_ret
                      exact ⟨by first | rfl | (simp [errW_none, errW_some] <;> rfl) | (simp [*, errW_none, errW_some] <;> rfl), by repeat (first | (with_reducible first | exact HB.out | apply below_alloc | apply pw_below_drewN | apply below_drew1) | exact HB.out)⟩
                    · rw [if_neg c31] at H
                      have c31b0 : decide (1125899906842624 < ((rd_T46 t435 x15_1).f5)) = false := decide_eq_false c31
                      clear c31
                      have H' := Aside0.mk H
                      clear H
                      obtain ⟨Ao35, co35, eo35⟩ := Kd.V_slice HO_14.out
                      subst eo35
                      have p438 : 0 ≤ (x15_1 : Int) := of_decide_eq_true (by first | (with_reducible assumption) | assumption)
                      have q438 : x15_1 < (t435.length : Int) := of_decide_eq_true (by first | (with_reducible assumption) | assumption)
                      obtain ⟨ad438, e438, hx438_0, hx438_1, hx438_2, hx438_3, hx438_4, hx438_5⟩ := at_T46 (Kd.V_reads' HO_14.out).2.2 x15_1 p438 q438
                      cases e438
                      replace p438 := eq_true p438
                      replace q438 := eq_true q438
                      have p440 : 0 ≤ (x15_1 : Int) := of_decide_eq_true (by first | (with_reducible assumption) | assumption)
                      have q440 : x15_1 < (t435.length : Int) := of_decide_eq_true (by first | (with_reducible assumption) | assumption)
                      obtain ⟨ad440, e440, hx440_0, hx440_1, hx440_2, hx440_3, hx440_4, hx440_5⟩ := at_T46 (Kd.V_reads' HO_14.out).2.2 x15_1 p440 q440
                      obtain rfl : ad438 = ad440 := (by injection e440)
                      replace p440 := eq_true p440
                      replace q440 := eq_true q440
                      have p442 : 0 ≤ (x15_1 : Int) := of_decide_eq_true (by first | (with_reducible assumption) | assumption)
                      have q442 : x15_1 < (t435.length : Int) := of_decide_eq_true (by first | (with_reducible assumption) | assumption)
                      obtain ⟨ad442, e442, hx442_0, hx442_1, hx442_2, hx442_3, hx442_4, hx442_5⟩ := at_T46 (Kd.V_reads' HO_14.out).2.2 x15_1 p442 q442
                      obtain rfl : ad438 = ad442 := (by injection e442)
                      replace p442 := eq_true p442
                      replace q442 := eq_true q442
                      have p444 : 0 ≤ (x15_1 : Int) := of_decide_eq_true (by first | (with_reducible assumption) | assumption)
                      have q444 : x15_1 < (t435.length : Int) := of_decide_eq_true (by first | (with_reducible assumption) | assumption)
                      obtain ⟨ad444, e444, hx444_0, hx444_1, hx444_2, hx444_3, hx444_4, hx444_5⟩ := at_T46 (Kd.V_reads' HO_14.out).2.2 x15_1 p444 q444
                      obtain rfl : ad438 = ad444 := (by injection e444)
                      replace p444 := eq_true p444
                      replace q444 := eq_true q444
                      have p446 : 0 ≤ (x15_1 : Int) := of_decide_eq_true (by first | (with_reducible assumption) | assumption)
                      have q446 : x15_1 < (t435.length : Int) := of_decide_eq_true (by first | (with_reducible assumption) | assumption)
                      obtain ⟨ad446, e446, hx446_0, hx446_1, hx446_2, hx446_3, hx446_4, hx446_5⟩ := at_T46 (Kd.V_reads' HO_14.out).2.2 x15_1 p446 q446
                      obtain rfl : ad438 = ad446 := (by injection e446)
                      replace p446 := eq_true p446
                      replace q446 := eq_true q446
                      have p448 : 0 ≤ (x15_1 : Int) := of_decide_eq_true (by first | (with_reducible assumption) | assumption)
                      have q448 : x15_1 < (t435.length : Int) := of_decide_eq_true (by first | (with_reducible assumption) | assumption)
                      obtain ⟨ad448, e448, hx448_0, hx448_1, hx448_2, hx448_3, hx448_4, hx448_5⟩ := at_T46 (Kd.V_reads' HO_14.out).2.2 x15_1 p448 q448
                      obtain rfl : ad438 = ad448 := (by injection e448)
                      replace p448 := eq_true p448
                      replace q448 := eq_true q448
                      go_wp2
                      repeat (go_quiet (fail); try go_wp2)
                      go_roundg k1
                      case measure => have := HK1.out; omega
                      case rel => exact ⟨(wrap64 (x15_1 + 1)), (by first | rfl | (simp; done) | (simp [*]; done)), H', ⟨by have := HK1.out; omega⟩, ⟨by (with_reducible repeat (first | apply Kd.V_alloc | apply Kd.V_drewN | apply Kd.V_drew)); exact HO_13.out⟩, ⟨by (with_reducible repeat (first | apply Kd.V_alloc | apply Kd.V_drewN | apply Kd.V_drew)); exact HO_14.out⟩, ⟨by repeat (first | (with_reducible first | exact HB.out | apply below_alloc | apply pw_below_drewN | apply below_drew1) | exact HB.out)⟩⟩
        · rw [if_neg c10] at H
          exact absurd H (by simp)
      · rw [if_neg c9] at H
        have c9b0 : decide (x15_1 < (t435.length : Int)) = false := decide_eq_false c9
        clear c9
        replace H := Option.bind_eq_some_iff.mp H
        obtain ⟨⟨t450, t453⟩, A360, H⟩ := H
        replace H : (if t453 = 0 then (prebendlaw11_DrawRound.j1 k1 a3 a5 t435 t450 (a3 == 0)) else (prebendlaw11_DrawRound.j1 k1 a3 a5 t435 t450 true)) = some r := H
        have A36 := Aside0.mk A360
        clear A360
        have HC37 := Aside0.mk H
        clear H
        obtain ⟨Ao38, co38, eo38⟩ := Kd.V_slice HO_14.out
        subst eo38
        obtain ⟨Ao39, co39, eo39⟩ := Kd.V_slice HO_13.out
        subst eo39
        go_upto_region 8 with (first | (go_at_call 9; (with_reducible refine (draw_Draws.calls k1 _ _ t432 _ _ t435 a2 a3 a4 t450 t453 _ ?side1 ?side2 ?side3 ?side4 A36.out).mono ?_); (case side1 => repeat (first | exact (Kd.V_reads' HO_13.out).2.2 | (with_reducible refine Kd.C_alloc ?_ _) | (with_reducible refine Kd.C_drewN ?_ _) | (with_reducible refine Kd.C_drew ?_))); (case side2 => exact (Kd.V_reads' HO_13.out).2.1); (case side3 => repeat (first | exact (Kd.V_reads' HO_14.out).2.2 | (with_reducible refine Kd.C_alloc ?_ _) | (with_reducible refine Kd.C_drewN ?_ _) | (with_reducible refine Kd.C_drew ?_))); (case side4 => exact (Kd.V_reads' HO_14.out).2.1); rintro e w40 ⟨v451, rfl, ho0, hb⟩; have n0_ := Aside0.mk (Kd.V_below (by (with_reducible repeat (first | apply Kd.V_alloc | apply Kd.V_drewN | apply Kd.V_drew)); exact HO_13.out) hb); have n1_ := Aside0.mk (Kd.V_below (by (with_reducible repeat (first | apply Kd.V_alloc | apply Kd.V_drewN | apply Kd.V_drew)); exact HO_14.out) hb); have n2_ := Aside0.mk (Kd.V_lower (Kd.V_mono (ok' := fun k_ => True) ho0 (fun k_ hk_ => trivial)) (below_size (by repeat (first | (with_reducible first | exact HB.out | apply below_alloc | apply pw_below_drewN | apply below_drew1) | exact HB.out)))); have n3_ := Aside0.mk (below_step (by repeat (first | (with_reducible first | exact HB.out | apply below_alloc | apply pw_below_drewN | apply below_drew1) | exact HB.out)) hb); clear HO_13; clear HO_14; clear HB; have HO_13 := n0_; have HO_14 := n1_; have HO452 := n2_; have HB := n3_; clear n0_ n1_ n2_ n3_; (try clear hb); (try clear hb2); (try clear hk); (try clear hi); (try clear ho0)))
        repeat (go_quiet (first | (go_at_call 9; (with_reducible refine (draw_Draws.calls k1 _ _ t432 _ _ t435 a2 a3 a4 t450 t453 _ ?side1 ?side2 ?side3 ?side4 A36.out).mono ?_); (case side1 => repeat (first | exact (Kd.V_reads' HO_13.out).2.2 | (with_reducible refine Kd.C_alloc ?_ _) | (with_reducible refine Kd.C_drewN ?_ _) | (with_reducible refine Kd.C_drew ?_))); (case side2 => exact (Kd.V_reads' HO_13.out).2.1); (case side3 => repeat (first | exact (Kd.V_reads' HO_14.out).2.2 | (with_reducible refine Kd.C_alloc ?_ _) | (with_reducible refine Kd.C_drewN ?_ _) | (with_reducible refine Kd.C_drew ?_))); (case side4 => exact (Kd.V_reads' HO_14.out).2.1); rintro e w40 ⟨v451, rfl, ho0, hb⟩; have n0_ := Aside0.mk (Kd.V_below (by (with_reducible repeat (first | apply Kd.V_alloc | apply Kd.V_drewN | apply Kd.V_drew)); exact HO_13.out) hb); have n1_ := Aside0.mk (Kd.V_below (by (with_reducible repeat (first | apply Kd.V_alloc | apply Kd.V_drewN | apply Kd.V_drew)); exact HO_14.out) hb); have n2_ := Aside0.mk (Kd.V_lower (Kd.V_mono (ok' := fun k_ => True) ho0 (fun k_ hk_ => trivial)) (below_size (by repeat (first | (with_reducible first | exact HB.out | apply below_alloc | apply pw_below_drewN | apply below_drew1) | exact HB.out)))); have n3_ := Aside0.mk (below_step (by repeat (first | (with_reducible first | exact HB.out | apply below_alloc | apply pw_below_drewN | apply below_drew1) | exact HB.out)) hb); clear HO_13; clear HO_14; clear HB; have HO_13 := n0_; have HO_14 := n1_; have HO452 := n2_; have HB := n3_; clear n0_ n1_ n2_ n3_; (try clear hb); (try clear hb2); (try clear hk); (try clear hi); (try clear ho0))); go_upto_region 8 with (first | (go_at_call 9; (with_reducible refine (draw_Draws.calls k1 _ _ t432 _ _ t435 a2 a3 a4 t450 t453 _ ?side1 ?side2 ?side3 ?side4 A36.out).mono ?_); (case side1 => repeat (first | exact (Kd.V_reads' HO_13.out).2.2 | (with_reducible refine Kd.C_alloc ?_ _) | (with_reducible refine Kd.C_drewN ?_ _) | (with_reducible refine Kd.C_drew ?_))); (case side2 => exact (Kd.V_reads' HO_13.out).2.1); (case side3 => repeat (first | exact (Kd.V_reads' HO_14.out).2.2 | (with_reducible refine Kd.C_alloc ?_ _) | (with_reducible refine Kd.C_drewN ?_ _) | (with_reducible refine Kd.C_drew ?_))); (case side4 => exact (Kd.V_reads' HO_14.out).2.1); rintro e w40 ⟨v451, rfl, ho0, hb⟩; have n0_ := Aside0.mk (Kd.V_below (by (with_reducible repeat (first | apply Kd.V_alloc | apply Kd.V_drewN | apply Kd.V_drew)); exact HO_13.out) hb); have n1_ := Aside0.mk (Kd.V_below (by (with_reducible repeat (first | apply Kd.V_alloc | apply Kd.V_drewN | apply Kd.V_drew)); exact HO_14.out) hb); have n2_ := Aside0.mk (Kd.V_lower (Kd.V_mono (ok' := fun k_ => True) ho0 (fun k_ hk_ => trivial)) (below_size (by repeat (first | (with_reducible first | exact HB.out | apply below_alloc | apply pw_below_drewN | apply below_drew1) | exact HB.out)))); have n3_ := Aside0.mk (below_step (by repeat (first | (with_reducible first | exact HB.out | apply below_alloc | apply pw_below_drewN | apply below_drew1) | exact HB.out)) hb); clear HO_13; clear HO_14; clear HB; have HO_13 := n0_; have HO_14 := n1_; have HO452 := n2_; have HB := n3_; clear n0_ n1_ n2_ n3_; (try clear hb); (try clear hb2); (try clear hk); (try clear hi); (try clear ho0))))
        (try simp only [Act.put, List.setIfInBounds_toArray, List.set_cons_zero, List.set_cons_succ])
        go_cut [105] from 100000 (fun v105 wc => ∃ (kq : Nat) (x105_36 : Bool), v105 = .bool x105_36 ∧ Aside0 (prebendlaw11_DrawRound.j1 kq a3 a5 t435 t450 x105_36 = some r) ∧ Aside0 (kq ≤ k1) ∧ Aside0 (Kd.V k46 46 wc w.heap.size (fun _ => True) (.slice Ao38 t435.length co38) t435) ∧ Aside0 (Kd.V k37 37 wc w.heap.size (fun _ => True) v451 t450) ∧ Aside0 (Below w.heap.size w wc))
        case first =>
          have H := HC37.out
          clear HC37
          by_cases c41 : t453 = 0
          · rw [if_pos c41] at H
            have c41b0 : (t453 == 0) = true := beq_iff_eq.mpr c41
            have c41b1 : (t453 != 0) = false := bne_eq_false_iff_eq.mpr c41
            clear c41
            (first | rw [c41b0] | (simp only [i64_w, i32_w]; rw [c41b0]) | skip)
            have H' := Aside0.mk H
            clear H
            go_wp2
            repeat (go_quiet (fail); try go_wp2)
            go_meet
            case rel => exact ⟨_, ((a3 == 0)), (by first | rfl | (simp; done) | (simp [*]; done)), H', ⟨by have := HK1.out; first | omega | exact Nat.le_refl _⟩, ⟨by (with_reducible repeat (first | apply Kd.V_alloc | apply Kd.V_drewN | apply Kd.V_drew)); exact HO_14.out⟩, ⟨by (with_reducible repeat (first | apply Kd.V_alloc | apply Kd.V_drewN | apply Kd.V_drew)); exact HO452.out⟩, ⟨by repeat (first | (with_reducible first | exact HB.out | apply below_alloc | apply pw_below_drewN | apply below_drew1) | exact HB.out)⟩⟩
          · rw [if_neg c41] at H
            have c41b0 : (t453 == 0) = false := beq_eq_false_iff_ne.mpr c41
            have c41b1 : (t453 != 0) = true := bne_iff_ne.mpr c41
            (first | rw [c41b0] | (simp only [i64_w, i32_w]; rw [c41b0]) | skip)
            have H' := Aside0.mk H
            clear H
            go_wp2
            repeat (go_quiet (fail); try go_wp2)
            go_meet
            case rel => exact ⟨_, (true), (by first | rfl | (simp; done) | (simp [*]; done)), H', ⟨by have := HK1.out; first | omega | exact Nat.le_refl _⟩, ⟨by (with_reducible repeat (first | apply Kd.V_alloc | apply Kd.V_drewN | apply Kd.V_drew)); exact HO_14.out⟩, ⟨by (with_reducible repeat (first | apply Kd.V_alloc | apply Kd.V_drewN | apply Kd.V_drew)); exact HO452.out⟩, ⟨by repeat (first | (with_reducible first | exact HB.out | apply below_alloc | apply pw_below_drewN | apply below_drew1) | exact HB.out)⟩⟩
        case rest =>
          clear HC37
          try clear c1
          try clear c2
          try clear p2
          try clear c3
          try clear c4
          try clear p4
          try clear q4
          try clear hx4
          try clear p6
          try clear c7
          try clear c9
          try clear c9b0
          try clear c10
          try clear c10b0
          try clear c11
          try clear c11b0
          try clear c15
          try clear c15b0
          try clear c19
          try clear c19b0
          try clear c23
          try clear c23b0
          try clear c27
          try clear c27b0
          try clear c31
          try clear c31b0
          try clear c41
          try clear c41b0
          try clear c41b1
          try clear hx438_0
          try clear hx438_1
          try clear hx438_2
          try clear hx438_3
          try clear hx438_4
          try clear hx438_5
          try clear hx440_0
          try clear hx440_1
          try clear hx440_2
          try clear hx440_3
          try clear hx440_4
          try clear hx440_5
          try clear hx442_0
          try clear hx442_1
          try clear hx442_2
          try clear hx442_3
          try clear hx442_4
          try clear hx442_5
          try clear hx444_0
          try clear hx444_1
          try clear hx444_2
          try clear hx444_3
          try clear hx444_4
          try clear hx444_5
          try clear hx446_0
          try clear hx446_1
          try clear hx446_2
          try clear hx446_3
          try clear hx446_4
          try clear hx446_5
          try clear hx448_0
          try clear hx448_1
          try clear hx448_2
          try clear hx448_3
          try clear hx448_4
          try clear hx448_5
          try clear p2
          try clear p438
          try clear p440
          try clear p442
          try clear p444
          try clear p446
          try clear p448
          try clear q438
          try clear q440
          try clear q442
          try clear q444
          try clear q446
          try clear q448
          obtain ⟨kq, x105_36, rfl, HA, HJ36, HO_14, HO_16, HB⟩ := hcut
          cases kq with
          | zero => exact absurd HA.out (by simp [prebendlaw11_DrawRound.j1])
          | succ kj36 =>
            have H := HA.out
            clear HA
            simp only [prebendlaw11_DrawRound.j1] at H
            by_cases c42 : x105_36 = true
            · subst c42
              have H1 : ((prebendlaw11_awake.f kj36).bind fun t454 => (some t454)) = some r := by rw [if_pos rfl] at H; exact H
              clear H
              have H := H1
              clear H1
              replace H := Option.bind_eq_some_iff.mp H
              obtain ⟨t454, A430, H⟩ := H
              replace H : (some t454) = some r := H
              have A43 := Aside0.mk A430
              clear A430
              obtain rfl := Option.some.inj H
              go_wp2_with (first | (go_at_call 11; (with_reducible refine (prebendlaw11_awake.calls kj36  t454 _ A43.out).mono ?_); rintro e w44 ⟨rfl, hb⟩; have n0_ := Aside0.mk (Kd.V_below (by (with_reducible repeat (first | apply Kd.V_alloc | apply Kd.V_drewN | apply Kd.V_drew)); exact HO_14.out) hb); have n1_ := Aside0.mk (Kd.V_below (by (with_reducible repeat (first | apply Kd.V_alloc | apply Kd.V_drewN | apply Kd.V_drew)); exact HO_16.out) hb); have n2_ := Aside0.mk (below_step (by repeat (first | (with_reducible first | exact HB.out | apply below_alloc | apply pw_below_drewN | apply below_drew1) | exact HB.out)) hb); clear HO_14; clear HO_16; clear HB; have HO_14 := n0_; have HO_16 := n1_; have HB := n2_; clear n0_ n1_ n2_; (try clear hb); (try clear hb2); (try clear hk); (try clear hi)))
              repeat (go_quiet (first | (go_at_call 11; (with_reducible refine (prebendlaw11_awake.calls kj36  t454 _ A43.out).mono ?_); rintro e w44 ⟨rfl, hb⟩; have n0_ := Aside0.mk (Kd.V_below (by (with_reducible repeat (first | apply Kd.V_alloc | apply Kd.V_drewN | apply Kd.V_drew)); exact HO_14.out) hb); have n1_ := Aside0.mk (Kd.V_below (by (with_reducible repeat (first | apply Kd.V_alloc | apply Kd.V_drewN | apply Kd.V_drew)); exact HO_16.out) hb); have n2_ := Aside0.mk (below_step (by repeat (first | (with_reducible first | exact HB.out | apply below_alloc | apply pw_below_drewN | apply below_drew1) | exact HB.out)) hb); clear HO_14; clear HO_16; clear HB; have HO_14 := n0_; have HO_16 := n1_; have HB := n2_; clear n0_ n1_ n2_; (try clear hb); (try clear hb2); (try clear hk); (try clear hi))); try go_wp2_with (first | (go_at_call 11; (with_reducible refine (prebendlaw11_awake.calls kj36  t454 _ A43.out).mono ?_); rintro e w44 ⟨rfl, hb⟩; have n0_ := Aside0.mk (Kd.V_below (by (with_reducible repeat (first | apply Kd.V_alloc | apply Kd.V_drewN | apply Kd.V_drew)); exact HO_14.out) hb); have n1_ := Aside0.mk (Kd.V_below (by (with_reducible repeat (first | apply Kd.V_alloc | apply Kd.V_drewN | apply Kd.V_drew)); exact HO_16.out) hb); have n2_ := Aside0.mk (below_step (by repeat (first | (with_reducible first | exact HB.out | apply below_alloc | apply pw_below_drewN | apply below_drew1) | exact HB.out)) hb); clear HO_14; clear HO_16; clear HB; have HO_14 := n0_; have HO_16 := n1_; have HB := n2_; clear n0_ n1_ n2_; (try clear hb); (try clear hb2); (try clear hk); (try clear hi))))
              go_ret
              exact ⟨by first | rfl | (simp [errW_none, errW_some] <;> rfl) | (simp [*, errW_none, errW_some] <;> rfl), by repeat (first | (with_reducible first | exact HB.out | apply below_alloc | apply pw_below_drewN | apply below_drew1) | exact HB.out)⟩
            · replace c42 := Bool.eq_false_iff.mpr c42
              subst c42
              have H1 : ((draw_Lien.f kj36 t450).bind fun t455 => ((ledger_Post.f kj36 0 t435 t455).bind fun bt458 => (if bt458.2.2 = 0 then (prebendlaw11_DrawRound.j2 kj36 a3 a5 t435 t450 bt458.2.1 (bt458.1 != 0)) else (prebendlaw11_DrawRound.j2 kj36 a3 a5 t435 t450 bt458.2.1 true)))) = some r := by rw [if_neg (show ¬ (false = true) by decide)] at H; exact H
              clear H
              have H := H1
              clear H1
              replace H := Option.bind_eq_some_iff.mp H
              obtain ⟨t455, A450, H⟩ := H
              replace H : ((ledger_Post.f kj36 0 t435 t455).bind fun bt458 => (if bt458.2.2 = 0 then (prebendlaw11_DrawRound.j2 kj36 a3 a5 t435 t450 bt458.2.1 (bt458.1 != 0)) else (prebendlaw11_DrawRound.j2 kj36 a3 a5 t435 t450 bt458.2.1 true))) = some r := H
              have A45 := Aside0.mk A450
              clear A450
              replace H := Option.bind_eq_some_iff.mp H
              obtain ⟨⟨t458, t459, t462⟩, A460, H⟩ := H
              replace H : (if t462 = 0 then (prebendlaw11_DrawRound.j2 kj36 a3 a5 t435 t450 t459 (t458 != 0)) else (prebendlaw11_DrawRound.j2 kj36 a3 a5 t435 t450 t459 true)) = some r := H
              have A46 := Aside0.mk A460
              clear A460
              have HC47 := Aside0.mk H
              clear H
              obtain ⟨Ao48, co48, eo48⟩ := Kd.V_slice HO_16.out
              subst eo48
              go_upto_region 11 with (first | (go_at_call 15; (with_reducible refine (draw_Lien.calls kj36 _ _ t450 t455 _ ?side1 ?side2 A45.out).mono ?_); (case side1 => repeat (first | exact (Kd.V_reads' HO_16.out).2.2 | (with_reducible refine Kd.C_alloc ?_ _) | (with_reducible refine Kd.C_drewN ?_ _) | (with_reducible refine Kd.C_drew ?_))); (case side2 => exact (Kd.V_reads' HO_16.out).2.1); rintro e w49 ⟨v456, rfl, ho0, hb⟩; have n0_ := Aside0.mk (Kd.V_below (by (with_reducible repeat (first | apply Kd.V_alloc | apply Kd.V_drewN | apply Kd.V_drew)); exact HO_14.out) hb); have n1_ := Aside0.mk (Kd.V_below (by (with_reducible repeat (first | apply Kd.V_alloc | apply Kd.V_drewN | apply Kd.V_drew)); exact HO_16.out) hb); have n2_ := Aside0.mk (Kd.V_lower (Kd.V_mono (ok' := fun k_ => True) ho0 (fun k_ hk_ => trivial)) (below_size (by repeat (first | (with_reducible first | exact HB.out | apply below_alloc | apply pw_below_drewN | apply below_drew1) | exact HB.out)))); have n3_ := Aside0.mk (below_step (by repeat (first | (with_reducible first | exact HB.out | apply below_alloc | apply pw_below_drewN | apply below_drew1) | exact HB.out)) hb); clear HO_14; clear HO_16; clear HB; have HO_14 := n0_; have HO_16 := n1_; have HO457 := n2_; have HB := n3_; clear n0_ n1_ n2_ n3_; (try clear hb); (try clear hb2); (try clear hk); (try clear hi); (try clear ho0); obtain ⟨Ao50, co50, eo50⟩ := Kd.V_slice HO457.out; subst eo50) | (go_at_call 25; (with_reducible refine (ledger_Post.calls kj36 0 _ _ t435 _ _ t455 t458 t459 t462 _ ?side1 ?side2 ?side3 ?side4 A46.out).mono ?_); (case side1 => repeat (first | exact (Kd.V_reads' HO_14.out).2.2 | (with_reducible refine Kd.C_alloc ?_ _) | (with_reducible refine Kd.C_drewN ?_ _) | (with_reducible refine Kd.C_drew ?_))); (case side2 => exact (Kd.V_reads' HO_14.out).2.1); (case side3 => repeat (first | exact (Kd.V_reads' HO457.out).2.2 | (with_reducible refine Kd.C_alloc ?_ _) | (with_reducible refine Kd.C_drewN ?_ _) | (with_reducible refine Kd.C_drew ?_))); (case side4 => exact (Kd.V_reads' HO457.out).2.1); rintro e w51 ⟨v460, rfl, ho0, hb⟩; have n0_ := Aside0.mk (Kd.V_below (by (with_reducible repeat (first | apply Kd.V_alloc | apply Kd.V_drewN | apply Kd.V_drew)); exact HO_14.out) hb); have n1_ := Aside0.mk (Kd.V_below (by (with_reducible repeat (first | apply Kd.V_alloc | apply Kd.V_drewN | apply Kd.V_drew)); exact HO_16.out) hb); have n2_ := Aside0.mk (Kd.V_below (by (with_reducible repeat (first | apply Kd.V_alloc | apply Kd.V_drewN | apply Kd.V_drew)); exact HO457.out) hb); have n3_ := Aside0.mk (Kd.V_lower (Kd.V_mono (ok' := fun k_ => True) ho0 (fun k_ hk_ => trivial)) (below_size (by repeat (first | (with_reducible first | exact HB.out | apply below_alloc | apply pw_below_drewN | apply below_drew1) | exact HB.out)))); have n4_ := Aside0.mk (below_step (by repeat (first | (with_reducible first | exact HB.out | apply below_alloc | apply pw_below_drewN | apply below_drew1) | exact HB.out)) hb); clear HO_14; clear HO_16; clear HO457; clear HB; have HO_14 := n0_; have HO_16 := n1_; have HO457 := n2_; have HO461 := n3_; have HB := n4_; clear n0_ n1_ n2_ n3_ n4_; (try clear hb); (try clear hb2); (try clear hk); (try clear hi); (try clear ho0)))
              repeat (go_quiet (first | (go_at_call 15; (with_reducible refine (draw_Lien.calls kj36 _ _ t450 t455 _ ?side1 ?side2 A45.out).mono ?_); (case side1 => repeat (first | exact (Kd.V_reads' HO_16.out).2.2 | (with_reducible refine Kd.C_alloc ?_ _) | (with_reducible refine Kd.C_drewN ?_ _) | (with_reducible refine Kd.C_drew ?_))); (case side2 => exact (Kd.V_reads' HO_16.out).2.1); rintro e w49 ⟨v456, rfl, ho0, hb⟩; have n0_ := Aside0.mk (Kd.V_below (by (with_reducible repeat (first | apply Kd.V_alloc | apply Kd.V_drewN | apply Kd.V_drew)); exact HO_14.out) hb); have n1_ := Aside0.mk (Kd.V_below (by (with_reducible repeat (first | apply Kd.V_alloc | apply Kd.V_drewN | apply Kd.V_drew)); exact HO_16.out) hb); have n2_ := Aside0.mk (Kd.V_lower (Kd.V_mono (ok' := fun k_ => True) ho0 (fun k_ hk_ => trivial)) (below_size (by repeat (first | (with_reducible first | exact HB.out | apply below_alloc | apply pw_below_drewN | apply below_drew1) | exact HB.out)))); have n3_ := Aside0.mk (below_step (by repeat (first | (with_reducible first | exact HB.out | apply below_alloc | apply pw_below_drewN | apply below_drew1) | exact HB.out)) hb); clear HO_14; clear HO_16; clear HB; have HO_14 := n0_; have HO_16 := n1_; have HO457 := n2_; have HB := n3_; clear n0_ n1_ n2_ n3_; (try clear hb); (try clear hb2); (try clear hk); (try clear hi); (try clear ho0); obtain ⟨Ao50, co50, eo50⟩ := Kd.V_slice HO457.out; subst eo50) | (go_at_call 25; (with_reducible refine (ledger_Post.calls kj36 0 _ _ t435 _ _ t455 t458 t459 t462 _ ?side1 ?side2 ?side3 ?side4 A46.out).mono ?_); (case side1 => repeat (first | exact (Kd.V_reads' HO_14.out).2.2 | (with_reducible refine Kd.C_alloc ?_ _) | (with_reducible refine Kd.C_drewN ?_ _) | (with_reducible refine Kd.C_drew ?_))); (case side2 => exact (Kd.V_reads' HO_14.out).2.1); (case side3 => repeat (first | exact (Kd.V_reads' HO457.out).2.2 | (with_reducible refine Kd.C_alloc ?_ _) | (with_reducible refine Kd.C_drewN ?_ _) | (with_reducible refine Kd.C_drew ?_))); (case side4 => exact (Kd.V_reads' HO457.out).2.1); rintro e w51 ⟨v460, rfl, ho0, hb⟩; have n0_ := Aside0.mk (Kd.V_below (by (with_reducible repeat (first | apply Kd.V_alloc | apply Kd.V_drewN | apply Kd.V_drew)); exact HO_14.out) hb); have n1_ := Aside0.mk (Kd.V_below (by (with_reducible repeat (first | apply Kd.V_alloc | apply Kd.V_drewN | apply Kd.V_drew)); exact HO_16.out) hb); have n2_ := Aside0.mk (Kd.V_below (by (with_reducible repeat (first | apply Kd.V_alloc | apply Kd.V_drewN | apply Kd.V_drew)); exact HO457.out) hb); have n3_ := Aside0.mk (Kd.V_lower (Kd.V_mono (ok' := fun k_ => True) ho0 (fun k_ hk_ => trivial)) (below_size (by repeat (first | (with_reducible first | exact HB.out | apply below_alloc | apply pw_below_drewN | apply below_drew1) | exact HB.out)))); have n4_ := Aside0.mk (below_step (by repeat (first | (with_reducible first | exact HB.out | apply below_alloc | apply pw_below_drewN | apply below_drew1) | exact HB.out)) hb); clear HO_14; clear HO_16; clear HO457; clear HB; have HO_14 := n0_; have HO_16 := n1_; have HO457 := n2_; have HO461 := n3_; have HB := n4_; clear n0_ n1_ n2_ n3_ n4_; (try clear hb); (try clear hb2); (try clear hk); (try clear hi); (try clear ho0))); go_upto_region 11 with (first | (go_at_call 15; (with_reducible refine (draw_Lien.calls kj36 _ _ t450 t455 _ ?side1 ?side2 A45.out).mono ?_); (case side1 => repeat (first | exact (Kd.V_reads' HO_16.out).2.2 | (with_reducible refine Kd.C_alloc ?_ _) | (with_reducible refine Kd.C_drewN ?_ _) | (with_reducible refine Kd.C_drew ?_))); (case side2 => exact (Kd.V_reads' HO_16.out).2.1); rintro e w49 ⟨v456, rfl, ho0, hb⟩; have n0_ := Aside0.mk (Kd.V_below (by (with_reducible repeat (first | apply Kd.V_alloc | apply Kd.V_drewN | apply Kd.V_drew)); exact HO_14.out) hb); have n1_ := Aside0.mk (Kd.V_below (by (with_reducible repeat (first | apply Kd.V_alloc | apply Kd.V_drewN | apply Kd.V_drew)); exact HO_16.out) hb); have n2_ := Aside0.mk (Kd.V_lower (Kd.V_mono (ok' := fun k_ => True) ho0 (fun k_ hk_ => trivial)) (below_size (by repeat (first | (with_reducible first | exact HB.out | apply below_alloc | apply pw_below_drewN | apply below_drew1) | exact HB.out)))); have n3_ := Aside0.mk (below_step (by repeat (first | (with_reducible first | exact HB.out | apply below_alloc | apply pw_below_drewN | apply below_drew1) | exact HB.out)) hb); clear HO_14; clear HO_16; clear HB; have HO_14 := n0_; have HO_16 := n1_; have HO457 := n2_; have HB := n3_; clear n0_ n1_ n2_ n3_; (try clear hb); (try clear hb2); (try clear hk); (try clear hi); (try clear ho0); obtain ⟨Ao50, co50, eo50⟩ := Kd.V_slice HO457.out; subst eo50) | (go_at_call 25; (with_reducible refine (ledger_Post.calls kj36 0 _ _ t435 _ _ t455 t458 t459 t462 _ ?side1 ?side2 ?side3 ?side4 A46.out).mono ?_); (case side1 => repeat (first | exact (Kd.V_reads' HO_14.out).2.2 | (with_reducible refine Kd.C_alloc ?_ _) | (with_reducible refine Kd.C_drewN ?_ _) | (with_reducible refine Kd.C_drew ?_))); (case side2 => exact (Kd.V_reads' HO_14.out).2.1); (case side3 => repeat (first | exact (Kd.V_reads' HO457.out).2.2 | (with_reducible refine Kd.C_alloc ?_ _) | (with_reducible refine Kd.C_drewN ?_ _) | (with_reducible refine Kd.C_drew ?_))); (case side4 => exact (Kd.V_reads' HO457.out).2.1); rintro e w51 ⟨v460, rfl, ho0, hb⟩; have n0_ := Aside0.mk (Kd.V_below (by (with_reducible repeat (first | apply Kd.V_alloc | apply Kd.V_drewN | apply Kd.V_drew)); exact HO_14.out) hb); have n1_ := Aside0.mk (Kd.V_below (by (with_reducible repeat (first | apply Kd.V_alloc | apply Kd.V_drewN | apply Kd.V_drew)); exact HO_16.out) hb); have n2_ := Aside0.mk (Kd.V_below (by (with_reducible repeat (first | apply Kd.V_alloc | apply Kd.V_drewN | apply Kd.V_drew)); exact HO457.out) hb); have n3_ := Aside0.mk (Kd.V_lower (Kd.V_mono (ok' := fun k_ => True) ho0 (fun k_ hk_ => trivial)) (below_size (by repeat (first | (with_reducible first | exact HB.out | apply below_alloc | apply pw_below_drewN | apply below_drew1) | exact HB.out)))); have n4_ := Aside0.mk (below_step (by repeat (first | (with_reducible first | exact HB.out | apply below_alloc | apply pw_below_drewN | apply below_drew1) | exact HB.out)) hb); clear HO_14; clear HO_16; clear HO457; clear HB; have HO_14 := n0_; have HO_16 := n1_; have HO457 := n2_; have HO461 := n3_; have HB := n4_; clear n0_ n1_ n2_ n3_ n4_; (try clear hb); (try clear hb2); (try clear hk); (try clear hi); (try clear ho0))))
              (try simp only [Act.put, List.setIfInBounds_toArray, List.set_cons_zero, List.set_cons_succ])
              go_cut [120] from 100000 (fun v120 wc => ∃ (kq : Nat) (x120_46 : Bool), v120 = .bool x120_46 ∧ Aside0 (prebendlaw11_DrawRound.j2 kq a3 a5 t435 t450 t459 x120_46 = some r) ∧ Aside0 (kq ≤ kj36) ∧ Aside0 (Kd.V k46 46 wc w.heap.size (fun _ => True) (.slice Ao38 t435.length co38) t435) ∧ Aside0 (Kd.V k37 37 wc w.heap.size (fun _ => True) (.slice Ao48 t450.length co48) t450) ∧ Aside0 (Kd.V k46 46 wc w.heap.size (fun _ => True) v460 t459) ∧ Aside0 (Below w.heap.size w wc))
              case first =>
                have H := HC47.out
                clear HC47
                by_cases c52 : t462 = 0
                · rw [if_pos c52] at H
                  have c52b0 : (t462 == 0) = true := beq_iff_eq.mpr c52
                  have c52b1 : (t462 != 0) = false := bne_eq_false_iff_eq.mpr c52
                  clear c52
                  (first | rw [c52b0] | (simp only [i64_w, i32_w]; rw [c52b0]) | skip)
                  have H' := Aside0.mk H
                  clear H
                  go_wp2
                  repeat (go_quiet (fail); try go_wp2)
                  go_meet
                  case rel => exact ⟨_, ((t458 != 0)), (by first | rfl | (simp; done) | (simp [*]; done)), H', ⟨by have := HK1.out; have := HJ36.out; first | omega | exact Nat.le_refl _⟩, ⟨by (with_reducible repeat (first | apply Kd.V_alloc | apply Kd.V_drewN | apply Kd.V_drew)); exact HO_14.out⟩, ⟨by (with_reducible repeat (first | apply Kd.V_alloc | apply Kd.V_drewN | apply Kd.V_drew)); exact HO_16.out⟩, ⟨by (with_reducible repeat (first | apply Kd.V_alloc | apply Kd.V_drewN | apply Kd.V_drew)); exact HO461.out⟩, ⟨by repeat (first | (with_reducible first | exact HB.out | apply below_alloc | apply pw_below_drewN | apply below_drew1) | exact HB.out)⟩⟩
                · rw [if_neg c52] at H
                  have c52b0 : (t462 == 0) = false := beq_eq_false_iff_ne.mpr c52
                  have c52b1 : (t462 != 0) = true := bne_iff_ne.mpr c52
                  (first | rw [c52b0] | (simp only [i64_w, i32_w]; rw [c52b0]) | skip)
                  have H' := Aside0.mk H
                  clear H
                  go_wp2
                  repeat (go_quiet (fail); try go_wp2)
                  go_meet
                  case rel => exact ⟨_, (true), (by first | rfl | (simp; done) | (simp [*]; done)), H', ⟨by have := HK1.out; have := HJ36.out; first | omega | exact Nat.le_refl _⟩, ⟨by (with_reducible repeat (first | apply Kd.V_alloc | apply Kd.V_drewN | apply Kd.V_drew)); exact HO_14.out⟩, ⟨by (with_reducible repeat (first | apply Kd.V_alloc | apply Kd.V_drewN | apply Kd.V_drew)); exact HO_16.out⟩, ⟨by (with_reducible repeat (first | apply Kd.V_alloc | apply Kd.V_drewN | apply Kd.V_drew)); exact HO461.out⟩, ⟨by repeat (first | (with_reducible first | exact HB.out | apply below_alloc | apply pw_below_drewN | apply below_drew1) | exact HB.out)⟩⟩
              case rest =>
                clear HC47
                try clear c1
                try clear c2
                try clear p2
                try clear c3
                try clear c4
                try clear p4
                try clear q4
                try clear hx4
                try clear c5
                try clear p6
                try clear c7
                try clear c9
                try clear c9b0
                try clear c10
                try clear c10b0
                try clear c11
                try clear c11b0
                try clear c15
                try clear c15b0
                try clear c19
                try clear c19b0
                try clear c23
                try clear c23b0
                try clear c27
                try clear c27b0
                try clear c31
                try clear c31b0
                try clear c41
                try clear c41b0
                try clear c41b1
                try clear c42
                try clear p43
                try clear q43
                try clear hx43
                try clear p44
                try clear q44
                try clear hx44
                try clear c52
                try clear c52b0
                try clear c52b1
                try clear hx438_0
                try clear hx438_1
                try clear hx438_2
                try clear hx438_3
                try clear hx438_4
                try clear hx438_5
                try clear hx440_0
                try clear hx440_1
                try clear hx440_2
                try clear hx440_3
                try clear hx440_4
                try clear hx440_5
                try clear hx442_0
                try clear hx442_1
                try clear hx442_2
                try clear hx442_3
                try clear hx442_4
                try clear hx442_5
                try clear hx444_0
                try clear hx444_1
                try clear hx444_2
                try clear hx444_3
                try clear hx444_4
                try clear hx444_5
                try clear hx446_0
                try clear hx446_1
                try clear hx446_2
                try clear hx446_3
                try clear hx446_4
                try clear hx446_5
                try clear hx448_0
                try clear hx448_1
                try clear hx448_2
                try clear hx448_3
                try clear hx448_4
                try clear hx448_5
                try clear p2
                try clear p4
                try clear p438
                try clear p440
                try clear p442
                try clear p444
                try clear p446
                try clear p448
                try clear p6
                try clear q4
                try clear q438
                try clear q440
                try clear q442
                try clear q444
                try clear q446
                try clear q448
                obtain ⟨kq, x120_46, rfl, HA, HJ46, HO_14, HO_16, HO_19, HB⟩ := hcut
                cases kq with
                | zero => exact absurd HA.out (by simp [prebendlaw11_DrawRound.j2])
                | succ kj46 =>
                  have H := HA.out
                  clear HA
                  simp only [prebendlaw11_DrawRound.j2] at H
                  by_cases c53 : x120_46 = true
                  · subst c53
                    have H1 : (some false) = some r := by rw [if_pos rfl] at H; exact H
                    clear H
                    have H := H1
                    clear H1
                    obtain rfl := Option.some.inj H
                    go_wp2
                    repeat (go_quiet (fail); try go_wp2)
                    go_ret
                    exact ⟨by first | rfl | (simp [errW_none, errW_some] <;> rfl) | (simp [*, errW_none, errW_some] <;> rfl), by repeat (first | (with_reducible first | exact HB.out | apply below_alloc | apply pw_below_drewN | apply below_drew1) | exact HB.out)⟩
                  · replace c53 := Bool.eq_false_iff.mpr c53
                    subst c53
                    have H1 : ((draw_Charge.f kj46 t450 a5).bind fun bt463 => (if bt463.2 = 0 then ((draw_Spend.f kj46 t450 bt463.1).bind fun t468 => ((ledger_Post.f kj46 0 t459 t468).bind fun bt471 => (if bt471.2.2 = 0 then (prebendlaw11_DrawRound.j3 kj46 a5 t435 bt463.1 bt471.2.1 ((bt471.2.1.length : Int) != (t435.length : Int))) else (prebendlaw11_DrawRound.j3 kj46 a5 t435 bt463.1 bt471.2.1 true)))) else ((prebendlaw11_awake.f kj46).bind fun t467 => (if t467 = true then (if a5 < 0 then (some true) else (some (decide (a5 > a3)))) else (some false))))) = some r := by rw [if_neg (show ¬ (false = true) by decide)] at H; exact H
                    clear H
                    have H := H1
                    clear H1
                    replace H := Option.bind_eq_some_iff.mp H
                    obtain ⟨⟨t463, t466⟩, A540, H⟩ := H
                    replace H : (if t466 = 0 then ((draw_Spend.f kj46 t450 t463).bind fun t468 => ((ledger_Post.f kj46 0 t459 t468).bind fun bt471 => (if bt471.2.2 = 0 then (prebendlaw11_DrawRound.j3 kj46 a5 t435 t463 bt471.2.1 ((bt471.2.1.length : Int) != (t435.length : Int))) else (prebendlaw11_DrawRound.j3 kj46 a5 t435 t463 bt471.2.1 true)))) else ((prebendlaw11_awake.f kj46).bind fun t467 => (if t467 = true then (if a5 < 0 then (some true) else (some (decide (a5 > a3)))) else (some false)))) = some r := H
                    have A54 := Aside0.mk A540
                    clear A540
                    by_cases c55 : t466 = 0
                    · rw [if_pos c55] at H
                      have c55b0 : (t466 == 0) = true := beq_iff_eq.mpr c55
                      have c55b1 : (t466 != 0) = false := bne_eq_false_iff_eq.mpr c55
                      clear c55
                      replace H := Option.bind_eq_some_iff.mp H
                      obtain ⟨t468, A560, H⟩ := H
                      replace H : ((ledger_Post.f kj46 0 t459 t468).bind fun bt471 => (if bt471.2.2 = 0 then (prebendlaw11_DrawRound.j3 kj46 a5 t435 t463 bt471.2.1 ((bt471.2.1.length : Int) != (t435.length : Int))) else (prebendlaw11_DrawRound.j3 kj46 a5 t435 t463 bt471.2.1 true))) = some r := H
                      have A56 := Aside0.mk A560
                      clear A560
                      replace H := Option.bind_eq_some_iff.mp H
                      obtain ⟨⟨t471, t472, t475⟩, A570, H⟩ := H
                      replace H : (if t475 = 0 then (prebendlaw11_DrawRound.j3 kj46 a5 t435 t463 t472 ((t472.length : Int) != (t435.length : Int))) else (prebendlaw11_DrawRound.j3 kj46 a5 t435 t463 t472 true)) = some r := H
                      have A57 := Aside0.mk A570
                      clear A570
                      have HC58 := Aside0.mk H
                      clear H
                      go_upto_region 17 with (first | (go_at_call 21; (with_reducible refine (draw_Charge.calls kj46 _ _ t450 a5 t463 t466 _ ?side1 ?side2 A54.out).mono ?_); (case side1 => repeat (first | exact (Kd.V_reads' HO_16.out).2.2 | (with_reducible refine Kd.C_alloc ?_ _) | (with_reducible refine Kd.C_drewN ?_ _) | (with_reducible refine Kd.C_drew ?_))); (case side2 => exact (Kd.V_reads' HO_16.out).2.1); rintro e w59 ⟨v464, rfl, ho0, hb⟩; have n0_ := Aside0.mk (Kd.V_below (by (with_reducible repeat (first | apply Kd.V_alloc | apply Kd.V_drewN | apply Kd.V_drew)); exact HO_14.out) hb); have n1_ := Aside0.mk (Kd.V_below (by (with_reducible repeat (first | apply Kd.V_alloc | apply Kd.V_drewN | apply Kd.V_drew)); exact HO_16.out) hb); have n2_ := Aside0.mk (Kd.V_below (by (with_reducible repeat (first | apply Kd.V_alloc | apply Kd.V_drewN | apply Kd.V_drew)); exact HO_19.out) hb); have n3_ := Aside0.mk (Kd.V_lower (Kd.V_mono (ok' := fun k_ => True) ho0 (fun k_ hk_ => trivial)) (below_size (by repeat (first | (with_reducible first | exact HB.out | apply below_alloc | apply pw_below_drewN | apply below_drew1) | exact HB.out)))); have n4_ := Aside0.mk (below_step (by repeat (first | (with_reducible first | exact HB.out | apply below_alloc | apply pw_below_drewN | apply below_drew1) | exact HB.out)) hb); clear HO_14; clear HO_16; clear HO_19; clear HB; have HO_14 := n0_; have HO_16 := n1_; have HO_19 := n2_; have HO465 := n3_; have HB := n4_; clear n0_ n1_ n2_ n3_ n4_; (try clear hb); (try clear hb2); (try clear hk); (try clear hi); (try clear ho0); obtain ⟨Ao60, co60, eo60⟩ := Kd.V_slice HO465.out; subst eo60) | (go_at_call 19; (with_reducible refine (draw_Spend.calls kj46 _ _ t450 _ _ t463 t468 _ ?side1 ?side2 ?side3 ?side4 A56.out).mono ?_); (case side1 => repeat (first | exact (Kd.V_reads' HO_16.out).2.2 | (with_reducible refine Kd.C_alloc ?_ _) | (with_reducible refine Kd.C_drewN ?_ _) | (with_reducible refine Kd.C_drew ?_))); (case side2 => exact (Kd.V_reads' HO_16.out).2.1); (case side3 => repeat (first | exact (Kd.V_reads' HO465.out).2.2 | (with_reducible refine Kd.C_alloc ?_ _) | (with_reducible refine Kd.C_drewN ?_ _) | (with_reducible refine Kd.C_drew ?_))); (case side4 => exact (Kd.V_reads' HO465.out).2.1); rintro e w61 ⟨v469, rfl, ho0, hb⟩; have n0_ := Aside0.mk (Kd.V_below (by (with_reducible repeat (first | apply Kd.V_alloc | apply Kd.V_drewN | apply Kd.V_drew)); exact HO_14.out) hb); have n1_ := Aside0.mk (Kd.V_below (by (with_reducible repeat (first | apply Kd.V_alloc | apply Kd.V_drewN | apply Kd.V_drew)); exact HO_16.out) hb); have n2_ := Aside0.mk (Kd.V_below (by (with_reducible repeat (first | apply Kd.V_alloc | apply Kd.V_drewN | apply Kd.V_drew)); exact HO_19.out) hb); have n3_ := Aside0.mk (Kd.V_below (by (with_reducible repeat (first | apply Kd.V_alloc | apply Kd.V_drewN | apply Kd.V_drew)); exact HO465.out) hb); have n4_ := Aside0.mk (Kd.V_lower (Kd.V_mono (ok' := fun k_ => True) ho0 (fun k_ hk_ => trivial)) (below_size (by repeat (first | (with_reducible first | exact HB.out | apply below_alloc | apply pw_below_drewN | apply below_drew1) | exact HB.out)))); have n5_ := Aside0.mk (below_step (by repeat (first | (with_reducible first | exact HB.out | apply below_alloc | apply pw_below_drewN | apply below_drew1) | exact HB.out)) hb); clear HO_14; clear HO_16; clear HO_19; clear HO465; clear HB; have HO_14 := n0_; have HO_16 := n1_; have HO_19 := n2_; have HO465 := n3_; have HO470 := n4_; have HB := n5_; clear n0_ n1_ n2_ n3_ n4_ n5_; (try clear hb); (try clear hb2); (try clear hk); (try clear hi); (try clear ho0); obtain ⟨Ao62, co62, eo62⟩ := Kd.V_slice HO_19.out; subst eo62; obtain ⟨Ao63, co63, eo63⟩ := Kd.V_slice HO470.out; subst eo63) | (go_at_call 25; (with_reducible refine (ledger_Post.calls kj46 0 _ _ t459 _ _ t468 t471 t472 t475 _ ?side1 ?side2 ?side3 ?side4 A57.out).mono ?_); (case side1 => repeat (first | exact (Kd.V_reads' HO_19.out).2.2 | (with_reducible refine Kd.C_alloc ?_ _) | (with_reducible refine Kd.C_drewN ?_ _) | (with_reducible refine Kd.C_drew ?_))); (case side2 => exact (Kd.V_reads' HO_19.out).2.1); (case side3 => repeat (first | exact (Kd.V_reads' HO470.out).2.2 | (with_reducible refine Kd.C_alloc ?_ _) | (with_reducible refine Kd.C_drewN ?_ _) | (with_reducible refine Kd.C_drew ?_))); (case side4 => exact (Kd.V_reads' HO470.out).2.1); rintro e w64 ⟨v473, rfl, ho0, hb⟩; have n0_ := Aside0.mk (Kd.V_below (by (with_reducible repeat (first | apply Kd.V_alloc | apply Kd.V_drewN | apply Kd.V_drew)); exact HO_14.out) hb); have n1_ := Aside0.mk (Kd.V_below (by (with_reducible repeat (first | apply Kd.V_alloc | apply Kd.V_drewN | apply Kd.V_drew)); exact HO_16.out) hb); have n2_ := Aside0.mk (Kd.V_below (by (with_reducible repeat (first | apply Kd.V_alloc | apply Kd.V_drewN | apply Kd.V_drew)); exact HO_19.out) hb); have n3_ := Aside0.mk (Kd.V_below (by (with_reducible repeat (first | apply Kd.V_alloc | apply Kd.V_drewN | apply Kd.V_drew)); exact HO465.out) hb); have n4_ := Aside0.mk (Kd.V_below (by (with_reducible repeat (first | apply Kd.V_alloc | apply Kd.V_drewN | apply Kd.V_drew)); exact HO470.out) hb); have n5_ := Aside0.mk (Kd.V_lower (Kd.V_mono (ok' := fun k_ => True) ho0 (fun k_ hk_ => trivial)) (below_size (by repeat (first | (with_reducible first | exact HB.out | apply below_alloc | apply pw_below_drewN | apply below_drew1) | exact HB.out)))); have n6_ := Aside0.mk (below_step (by repeat (first | (with_reducible first | exact HB.out | apply below_alloc | apply pw_below_drewN | apply below_drew1) | exact HB.out)) hb); clear HO_14; clear HO_16; clear HO_19; clear HO465; clear HO470; clear HB; have HO_14 := n0_; have HO_16 := n1_; have HO_19 := n2_; have HO465 := n3_; have HO470 := n4_; have HO474 := n5_; have HB := n6_; clear n0_ n1_ n2_ n3_ n4_ n5_ n6_; (try clear hb); (try clear hb2); (try clear hk); (try clear hi); (try clear ho0)))
                      repeat (go_quiet (first | (go_at_call 21; (with_reducible refine (draw_Charge.calls kj46 _ _ t450 a5 t463 t466 _ ?side1 ?side2 A54.out).mono ?_); (case side1 => repeat (first | exact (Kd.V_reads' HO_16.out).2.2 | (with_reducible refine Kd.C_alloc ?_ _) | (with_reducible refine Kd.C_drewN ?_ _) | (with_reducible refine Kd.C_drew ?_))); (case side2 => exact (Kd.V_reads' HO_16.out).2.1); rintro e w59 ⟨v464, rfl, ho0, hb⟩; have n0_ := Aside0.mk (Kd.V_below (by (with_reducible repeat (first | apply Kd.V_alloc | apply Kd.V_drewN | apply Kd.V_drew)); exact HO_14.out) hb); have n1_ := Aside0.mk (Kd.V_below (by (with_reducible repeat (first | apply Kd.V_alloc | apply Kd.V_drewN | apply Kd.V_drew)); exact HO_16.out) hb); have n2_ := Aside0.mk (Kd.V_below (by (with_reducible repeat (first | apply Kd.V_alloc | apply Kd.V_drewN | apply Kd.V_drew)); exact HO_19.out) hb); have n3_ := Aside0.mk (Kd.V_lower (Kd.V_mono (ok' := fun k_ => True) ho0 (fun k_ hk_ => trivial)) (below_size (by repeat (first | (with_reducible first | exact HB.out | apply below_alloc | apply pw_below_drewN | apply below_drew1) | exact HB.out)))); have n4_ := Aside0.mk (below_step (by repeat (first | (with_reducible first | exact HB.out | apply below_alloc | apply pw_below_drewN | apply below_drew1) | exact HB.out)) hb); clear HO_14; clear HO_16; clear HO_19; clear HB; have HO_14 := n0_; have HO_16 := n1_; have HO_19 := n2_; have HO465 := n3_; have HB := n4_; clear n0_ n1_ n2_ n3_ n4_; (try clear hb); (try clear hb2); (try clear hk); (try clear hi); (try clear ho0); obtain ⟨Ao60, co60, eo60⟩ := Kd.V_slice HO465.out; subst eo60) | (go_at_call 19; (with_reducible refine (draw_Spend.calls kj46 _ _ t450 _ _ t463 t468 _ ?side1 ?side2 ?side3 ?side4 A56.out).mono ?_); (case side1 => repeat (first | exact (Kd.V_reads' HO_16.out).2.2 | (with_reducible refine Kd.C_alloc ?_ _) | (with_reducible refine Kd.C_drewN ?_ _) | (with_reducible refine Kd.C_drew ?_))); (case side2 => exact (Kd.V_reads' HO_16.out).2.1); (case side3 => repeat (first | exact (Kd.V_reads' HO465.out).2.2 | (with_reducible refine Kd.C_alloc ?_ _) | (with_reducible refine Kd.C_drewN ?_ _) | (with_reducible refine Kd.C_drew ?_))); (case side4 => exact (Kd.V_reads' HO465.out).2.1); rintro e w61 ⟨v469, rfl, ho0, hb⟩; have n0_ := Aside0.mk (Kd.V_below (by (with_reducible repeat (first | apply Kd.V_alloc | apply Kd.V_drewN | apply Kd.V_drew)); exact HO_14.out) hb); have n1_ := Aside0.mk (Kd.V_below (by (with_reducible repeat (first | apply Kd.V_alloc | apply Kd.V_drewN | apply Kd.V_drew)); exact HO_16.out) hb); have n2_ := Aside0.mk (Kd.V_below (by (with_reducible repeat (first | apply Kd.V_alloc | apply Kd.V_drewN | apply Kd.V_drew)); exact HO_19.out) hb); have n3_ := Aside0.mk (Kd.V_below (by (with_reducible repeat (first | apply Kd.V_alloc | apply Kd.V_drewN | apply Kd.V_drew)); exact HO465.out) hb); have n4_ := Aside0.mk (Kd.V_lower (Kd.V_mono (ok' := fun k_ => True) ho0 (fun k_ hk_ => trivial)) (below_size (by repeat (first | (with_reducible first | exact HB.out | apply below_alloc | apply pw_below_drewN | apply below_drew1) | exact HB.out)))); have n5_ := Aside0.mk (below_step (by repeat (first | (with_reducible first | exact HB.out | apply below_alloc | apply pw_below_drewN | apply below_drew1) | exact HB.out)) hb); clear HO_14; clear HO_16; clear HO_19; clear HO465; clear HB; have HO_14 := n0_; have HO_16 := n1_; have HO_19 := n2_; have HO465 := n3_; have HO470 := n4_; have HB := n5_; clear n0_ n1_ n2_ n3_ n4_ n5_; (try clear hb); (try clear hb2); (try clear hk); (try clear hi); (try clear ho0); obtain ⟨Ao62, co62, eo62⟩ := Kd.V_slice HO_19.out; subst eo62; obtain ⟨Ao63, co63, eo63⟩ := Kd.V_slice HO470.out; subst eo63) | (go_at_call 25; (with_reducible refine (ledger_Post.calls kj46 0 _ _ t459 _ _ t468 t471 t472 t475 _ ?side1 ?side2 ?side3 ?side4 A57.out).mono ?_); (case side1 => repeat (first | exact (Kd.V_reads' HO_19.out).2.2 | (with_reducible refine Kd.C_alloc ?_ _) | (with_reducible refine Kd.C_drewN ?_ _) | (with_reducible refine Kd.C_drew ?_))); (case side2 => exact (Kd.V_reads' HO_19.out).2.1); (case side3 => repeat (first | exact (Kd.V_reads' HO470.out).2.2 | (with_reducible refine Kd.C_alloc ?_ _) | (with_reducible refine Kd.C_drewN ?_ _) | (with_reducible refine Kd.C_drew ?_))); (case side4 => exact (Kd.V_reads' HO470.out).2.1); rintro e w64 ⟨v473, rfl, ho0, hb⟩; have n0_ := Aside0.mk (Kd.V_below (by (with_reducible repeat (first | apply Kd.V_alloc | apply Kd.V_drewN | apply Kd.V_drew)); exact HO_14.out) hb); have n1_ := Aside0.mk (Kd.V_below (by (with_reducible repeat (first | apply Kd.V_alloc | apply Kd.V_drewN | apply Kd.V_drew)); exact HO_16.out) hb); have n2_ := Aside0.mk (Kd.V_below (by (with_reducible repeat (first | apply Kd.V_alloc | apply Kd.V_drewN | apply Kd.V_drew)); exact HO_19.out) hb); have n3_ := Aside0.mk (Kd.V_below (by (with_reducible repeat (first | apply Kd.V_alloc | apply Kd.V_drewN | apply Kd.V_drew)); exact HO465.out) hb); have n4_ := Aside0.mk (Kd.V_below (by (with_reducible repeat (first | apply Kd.V_alloc | apply Kd.V_drewN | apply Kd.V_drew)); exact HO470.out) hb); have n5_ := Aside0.mk (Kd.V_lower (Kd.V_mono (ok' := fun k_ => True) ho0 (fun k_ hk_ => trivial)) (below_size (by repeat (first | (with_reducible first | exact HB.out | apply below_alloc | apply pw_below_drewN | apply below_drew1) | exact HB.out)))); have n6_ := Aside0.mk (below_step (by repeat (first | (with_reducible first | exact HB.out | apply below_alloc | apply pw_below_drewN | apply below_drew1) | exact HB.out)) hb); clear HO_14; clear HO_16; clear HO_19; clear HO465; clear HO470; clear HB; have HO_14 := n0_; have HO_16 := n1_; have HO_19 := n2_; have HO465 := n3_; have HO470 := n4_; have HO474 := n5_; have HB := n6_; clear n0_ n1_ n2_ n3_ n4_ n5_ n6_; (try clear hb); (try clear hb2); (try clear hk); (try clear hi); (try clear ho0))); go_upto_region 17 with (first | (go_at_call 21; (with_reducible refine (draw_Charge.calls kj46 _ _ t450 a5 t463 t466 _ ?side1 ?side2 A54.out).mono ?_); (case side1 => repeat (first | exact (Kd.V_reads' HO_16.out).2.2 | (with_reducible refine Kd.C_alloc ?_ _) | (with_reducible refine Kd.C_drewN ?_ _) | (with_reducible refine Kd.C_drew ?_))); (case side2 => exact (Kd.V_reads' HO_16.out).2.1); rintro e w59 ⟨v464, rfl, ho0, hb⟩; have n0_ := Aside0.mk (Kd.V_below (by (with_reducible repeat (first | apply Kd.V_alloc | apply Kd.V_drewN | apply Kd.V_drew)); exact HO_14.out) hb); have n1_ := Aside0.mk (Kd.V_below (by (with_reducible repeat (first | apply Kd.V_alloc | apply Kd.V_drewN | apply Kd.V_drew)); exact HO_16.out) hb); have n2_ := Aside0.mk (Kd.V_below (by (with_reducible repeat (first | apply Kd.V_alloc | apply Kd.V_drewN | apply Kd.V_drew)); exact HO_19.out) hb); have n3_ := Aside0.mk (Kd.V_lower (Kd.V_mono (ok' := fun k_ => True) ho0 (fun k_ hk_ => trivial)) (below_size (by repeat (first | (with_reducible first | exact HB.out | apply below_alloc | apply pw_below_drewN | apply below_drew1) | exact HB.out)))); have n4_ := Aside0.mk (below_step (by repeat (first | (with_reducible first | exact HB.out | apply below_alloc | apply pw_below_drewN | apply below_drew1) | exact HB.out)) hb); clear HO_14; clear HO_16; clear HO_19; clear HB; have HO_14 := n0_; have HO_16 := n1_; have HO_19 := n2_; have HO465 := n3_; have HB := n4_; clear n0_ n1_ n2_ n3_ n4_; (try clear hb); (try clear hb2); (try clear hk); (try clear hi); (try clear ho0); obtain ⟨Ao60, co60, eo60⟩ := Kd.V_slice HO465.out; subst eo60) | (go_at_call 19; (with_reducible refine (draw_Spend.calls kj46 _ _ t450 _ _ t463 t468 _ ?side1 ?side2 ?side3 ?side4 A56.out).mono ?_); (case side1 => repeat (first | exact (Kd.V_reads' HO_16.out).2.2 | (with_reducible refine Kd.C_alloc ?_ _) | (with_reducible refine Kd.C_drewN ?_ _) | (with_reducible refine Kd.C_drew ?_))); (case side2 => exact (Kd.V_reads' HO_16.out).2.1); (case side3 => repeat (first | exact (Kd.V_reads' HO465.out).2.2 | (with_reducible refine Kd.C_alloc ?_ _) | (with_reducible refine Kd.C_drewN ?_ _) | (with_reducible refine Kd.C_drew ?_))); (case side4 => exact (Kd.V_reads' HO465.out).2.1); rintro e w61 ⟨v469, rfl, ho0, hb⟩; have n0_ := Aside0.mk (Kd.V_below (by (with_reducible repeat (first | apply Kd.V_alloc | apply Kd.V_drewN | apply Kd.V_drew)); exact HO_14.out) hb); have n1_ := Aside0.mk (Kd.V_below (by (with_reducible repeat (first | apply Kd.V_alloc | apply Kd.V_drewN | apply Kd.V_drew)); exact HO_16.out) hb); have n2_ := Aside0.mk (Kd.V_below (by (with_reducible repeat (first | apply Kd.V_alloc | apply Kd.V_drewN | apply Kd.V_drew)); exact HO_19.out) hb); have n3_ := Aside0.mk (Kd.V_below (by (with_reducible repeat (first | apply Kd.V_alloc | apply Kd.V_drewN | apply Kd.V_drew)); exact HO465.out) hb); have n4_ := Aside0.mk (Kd.V_lower (Kd.V_mono (ok' := fun k_ => True) ho0 (fun k_ hk_ => trivial)) (below_size (by repeat (first | (with_reducible first | exact HB.out | apply below_alloc | apply pw_below_drewN | apply below_drew1) | exact HB.out)))); have n5_ := Aside0.mk (below_step (by repeat (first | (with_reducible first | exact HB.out | apply below_alloc | apply pw_below_drewN | apply below_drew1) | exact HB.out)) hb); clear HO_14; clear HO_16; clear HO_19; clear HO465; clear HB; have HO_14 := n0_; have HO_16 := n1_; have HO_19 := n2_; have HO465 := n3_; have HO470 := n4_; have HB := n5_; clear n0_ n1_ n2_ n3_ n4_ n5_; (try clear hb); (try clear hb2); (try clear hk); (try clear hi); (try clear ho0); obtain ⟨Ao62, co62, eo62⟩ := Kd.V_slice HO_19.out; subst eo62; obtain ⟨Ao63, co63, eo63⟩ := Kd.V_slice HO470.out; subst eo63) | (go_at_call 25; (with_reducible refine (ledger_Post.calls kj46 0 _ _ t459 _ _ t468 t471 t472 t475 _ ?side1 ?side2 ?side3 ?side4 A57.out).mono ?_); (case side1 => repeat (first | exact (Kd.V_reads' HO_19.out).2.2 | (with_reducible refine Kd.C_alloc ?_ _) | (with_reducible refine Kd.C_drewN ?_ _) | (with_reducible refine Kd.C_drew ?_))); (case side2 => exact (Kd.V_reads' HO_19.out).2.1); (case side3 => repeat (first | exact (Kd.V_reads' HO470.out).2.2 | (with_reducible refine Kd.C_alloc ?_ _) | (with_reducible refine Kd.C_drewN ?_ _) | (with_reducible refine Kd.C_drew ?_))); (case side4 => exact (Kd.V_reads' HO470.out).2.1); rintro e w64 ⟨v473, rfl, ho0, hb⟩; have n0_ := Aside0.mk (Kd.V_below (by (with_reducible repeat (first | apply Kd.V_alloc | apply Kd.V_drewN | apply Kd.V_drew)); exact HO_14.out) hb); have n1_ := Aside0.mk (Kd.V_below (by (with_reducible repeat (first | apply Kd.V_alloc | apply Kd.V_drewN | apply Kd.V_drew)); exact HO_16.out) hb); have n2_ := Aside0.mk (Kd.V_below (by (with_reducible repeat (first | apply Kd.V_alloc | apply Kd.V_drewN | apply Kd.V_drew)); exact HO_19.out) hb); have n3_ := Aside0.mk (Kd.V_below (by (with_reducible repeat (first | apply Kd.V_alloc | apply Kd.V_drewN | apply Kd.V_drew)); exact HO465.out) hb); have n4_ := Aside0.mk (Kd.V_below (by (with_reducible repeat (first | apply Kd.V_alloc | apply Kd.V_drewN | apply Kd.V_drew)); exact HO470.out) hb); have n5_ := Aside0.mk (Kd.V_lower (Kd.V_mono (ok' := fun k_ => True) ho0 (fun k_ hk_ => trivial)) (below_size (by repeat (first | (with_reducible first | exact HB.out | apply below_alloc | apply pw_below_drewN | apply below_drew1) | exact HB.out)))); have n6_ := Aside0.mk (below_step (by repeat (first | (with_reducible first | exact HB.out | apply below_alloc | apply pw_below_drewN | apply below_drew1) | exact HB.out)) hb); clear HO_14; clear HO_16; clear HO_19; clear HO465; clear HO470; clear HB; have HO_14 := n0_; have HO_16 := n1_; have HO_19 := n2_; have HO465 := n3_; have HO470 := n4_; have HO474 := n5_; have HB := n6_; clear n0_ n1_ n2_ n3_ n4_ n5_ n6_; (try clear hb); (try clear hb2); (try clear hk); (try clear hi); (try clear ho0))))
                      (try simp only [Act.put, List.setIfInBounds_toArray, List.set_cons_zero, List.set_cons_succ])
                      go_cut [156] from 100000 (fun v156 wc => ∃ (kq : Nat) (x156_57 : Bool), v156 = .bool x156_57 ∧ Aside0 (prebendlaw11_DrawRound.j3 kq a5 t435 t463 t472 x156_57 = some r) ∧ Aside0 (kq ≤ kj46) ∧ Aside0 (Kd.V k46 46 wc w.heap.size (fun _ => True) (.slice Ao38 t435.length co38) t435) ∧ Aside0 (Kd.V k37 37 wc w.heap.size (fun _ => True) (.slice Ao60 t463.length co60) t463) ∧ Aside0 (Kd.V k46 46 wc w.heap.size (fun _ => True) v473 t472) ∧ Aside0 (Below w.heap.size w wc))
                      case first =>
                        have H := HC58.out
                        clear HC58
                        by_cases c65 : t475 = 0
                        · rw [if_pos c65] at H
                          have c65b0 : (t475 == 0) = true := beq_iff_eq.mpr c65
                          have c65b1 : (t475 != 0) = false := bne_eq_false_iff_eq.mpr c65
                          clear c65
                          (first | rw [c65b0] | (simp only [i64_w, i32_w]; rw [c65b0]) | skip)
                          have H' := Aside0.mk H
                          clear H
                          obtain ⟨Ao66, co66, eo66⟩ := Kd.V_slice HO474.out
                          subst eo66
                          go_wp2
                          repeat (go_quiet (fail); try go_wp2)
                          go_meet
                          case rel => exact ⟨_, (((t472.length : Int) != (t435.length : Int))), (by first | rfl | (simp; done) | (simp [*]; done)), H', ⟨by have := HK1.out; have := HJ36.out; have := HJ46.out; first | omega | exact Nat.le_refl _⟩, ⟨by (with_reducible repeat (first | apply Kd.V_alloc | apply Kd.V_drewN | apply Kd.V_drew)); exact HO_14.out⟩, ⟨by (with_reducible repeat (first | apply Kd.V_alloc | apply Kd.V_drewN | apply Kd.V_drew)); exact HO465.out⟩, ⟨by (with_reducible repeat (first | apply Kd.V_alloc | apply Kd.V_drewN | apply Kd.V_drew)); exact HO474.out⟩, ⟨by repeat (first | (with_reducible first | exact HB.out | apply below_alloc | apply pw_below_drewN | apply below_drew1) | exact HB.out)⟩⟩
                        · rw [if_neg c65] at H
                          have c65b0 : (t475 == 0) = false := beq_eq_false_iff_ne.mpr c65
                          have c65b1 : (t475 != 0) = true := bne_iff_ne.mpr c65
                          (first | rw [c65b0] | (simp only [i64_w, i32_w]; rw [c65b0]) | skip)
                          have H' := Aside0.mk H
                          clear H
                          go_wp2
                          repeat (go_quiet (fail); try go_wp2)
                          go_meet
                          case rel => exact ⟨_, (true), (by first | rfl | (simp; done) | (simp [*]; done)), H', ⟨by have := HK1.out; have := HJ36.out; have := HJ46.out; first | omega | exact Nat.le_refl _⟩, ⟨by (with_reducible repeat (first | apply Kd.V_alloc | apply Kd.V_drewN | apply Kd.V_drew)); exact HO_14.out⟩, ⟨by (with_reducible repeat (first | apply Kd.V_alloc | apply Kd.V_drewN | apply Kd.V_drew)); exact HO465.out⟩, ⟨by (with_reducible repeat (first | apply Kd.V_alloc | apply Kd.V_drewN | apply Kd.V_drew)); exact HO474.out⟩, ⟨by repeat (first | (with_reducible first | exact HB.out | apply below_alloc | apply pw_below_drewN | apply below_drew1) | exact HB.out)⟩⟩
                      case rest =>
                        clear HC58
                        try clear c1
                        try clear c2
                        try clear p2
                        try clear c3
                        try clear c4
                        try clear p4
                        try clear q4
                        try clear hx4
                        try clear c5
                        try clear c6
                        try clear p6
                        try clear c7
                        try clear c9
                        try clear c9b0
                        try clear c10
                        try clear c10b0
                        try clear c11
                        try clear c11b0
                        try clear c15
                        try clear c15b0
                        try clear c19
                        try clear c19b0
                        try clear c23
                        try clear c23b0
                        try clear c27
                        try clear c27b0
                        try clear c31
                        try clear c31b0
                        try clear c41
                        try clear c41b0
                        try clear c41b1
                        try clear c42
                        try clear p43
                        try clear q43
                        try clear hx43
                        try clear p44
                        try clear q44
                        try clear hx44
                        try clear c52
                        try clear c52b0
                        try clear c52b1
                        try clear c53
                        try clear c55
                        try clear c55b0
                        try clear c55b1
                        try clear p64
                        try clear c65
                        try clear c65b0
                        try clear c65b1
                        try clear hx438_0
                        try clear hx438_1
                        try clear hx438_2
                        try clear hx438_3
                        try clear hx438_4
                        try clear hx438_5
                        try clear hx440_0
                        try clear hx440_1
                        try clear hx440_2
                        try clear hx440_3
                        try clear hx440_4
                        try clear hx440_5
                        try clear hx442_0
                        try clear hx442_1
                        try clear hx442_2
                        try clear hx442_3
                        try clear hx442_4
                        try clear hx442_5
                        try clear hx444_0
                        try clear hx444_1
                        try clear hx444_2
                        try clear hx444_3
                        try clear hx444_4
                        try clear hx444_5
                        try clear hx446_0
                        try clear hx446_1
                        try clear hx446_2
                        try clear hx446_3
                        try clear hx446_4
                        try clear hx446_5
                        try clear hx448_0
                        try clear hx448_1
                        try clear hx448_2
                        try clear hx448_3
                        try clear hx448_4
                        try clear hx448_5
                        try clear p2
                        try clear p4
                        try clear p43
                        try clear p438
                        try clear p44
                        try clear p440
                        try clear p442
                        try clear p444
                        try clear p446
                        try clear p448
                        try clear p6
                        try clear q4
                        try clear q43
                        try clear q438
                        try clear q44
                        try clear q440
                        try clear q442
                        try clear q444
                        try clear q446
                        try clear q448
                        obtain ⟨kq, x156_57, rfl, HA, HJ57, HO_14, HO_21, HO_24, HB⟩ := hcut
                        cases kq with
                        | zero => exact absurd HA.out (by simp [prebendlaw11_DrawRound.j3])
                        | succ kj57 =>
                          have H := HA.out
                          clear HA
                          simp only [prebendlaw11_DrawRound.j3] at H
                          by_cases c67 : x156_57 = true
                          · subst c67
                            have H1 : (some false) = some r := by rw [if_pos rfl] at H; exact H
                            clear H
                            have H := H1
                            clear H1
                            obtain rfl := Option.some.inj H
                            go_wp2
                            repeat (go_quiet (fail); try go_wp2)
                            go_ret
                            exact ⟨by first | rfl | (simp [errW_none, errW_some] <;> rfl) | (simp [*, errW_none, errW_some] <;> rfl), by repeat (first | (with_reducible first | exact HB.out | apply below_alloc | apply pw_below_drewN | apply below_drew1) | exact HB.out)⟩
                          · replace c67 := Bool.eq_false_iff.mpr c67
                            subst c67
                            have H1 : (prebendlaw11_DrawRound.l1 kj57 a5 t435 t463 t472 0 0 0) = some r := by rw [if_neg (show ¬ (false = true) by decide)] at H; exact H
                            clear H
                            have H := H1
                            clear H1
                            have H' := Aside0.mk H
                            clear H
                            go_wp2
                            repeat (go_quiet (fail); try go_wp2)
                            go_loopg [26, 27, 28] kj57 (fun kq v26 v27 v28 w' => ∃ (x26_5 : Int) (x27_5 : Int) (x28_5 : Int), v26 = .int .i64 x26_5 ∧ v27 = .int .i64 x27_5 ∧ v28 = .int .i64 x28_5 ∧ Aside0 (prebendlaw11_DrawRound.l1 kq a5 t435 t463 t472 x26_5 x27_5 x28_5 = some r) ∧ Aside0 (kq ≤ kj57) ∧ Aside0 (Kd.V k46 46 w' w.heap.size (fun _ => True) (.slice Ao38 t435.length co38) t435) ∧ Aside0 (Kd.V k37 37 w' w.heap.size (fun _ => True) (.slice Ao60 t463.length co60) t463) ∧ Aside0 (Kd.V k46 46 w' w.heap.size (fun _ => True) v473 t472) ∧ Aside0 (Below w.heap.size w w'))
                            case atStart => exact ⟨(0), (0), (0), (by first | rfl | (simp; done) | (simp [*]; done)), (by first | rfl | (simp; done) | (simp [*]; done)), (by first | rfl | (simp; done) | (simp [*]; done)), H', ⟨Nat.le_refl _⟩, ⟨by (with_reducible repeat (first | apply Kd.V_alloc | apply Kd.V_drewN | apply Kd.V_drew)); exact HO_14.out⟩, ⟨by (with_reducible repeat (first | apply Kd.V_alloc | apply Kd.V_drewN | apply Kd.V_drew)); exact HO_21.out⟩, ⟨by (with_reducible repeat (first | apply Kd.V_alloc | apply Kd.V_drewN | apply Kd.V_drew)); exact HO_24.out⟩, ⟨by repeat (first | (with_reducible first | exact HB.out | apply below_alloc | apply pw_below_drewN | apply below_drew1) | exact HB.out)⟩⟩
                            case round =>
                              clear H'
                              try clear c1
                              try clear c2
                              try clear p2
                              try clear c3
                              try clear c4
                              try clear p4
                              try clear q4
                              try clear hx4
                              try clear c5
                              try clear c6
                              try clear p6
                              try clear c7
                              try clear c9
                              try clear c9b0
                              try clear c10
                              try clear c10b0
                              try clear c11
                              try clear c11b0
                              try clear c15
                              try clear c15b0
                              try clear c19
                              try clear c19b0
                              try clear c23
                              try clear c23b0
                              try clear c27
                              try clear c27b0
                              try clear c31
                              try clear c31b0
                              try clear c41
                              try clear c41b0
                              try clear c41b1
                              try clear c42
                              try clear p43
                              try clear q43
                              try clear hx43
                              try clear p44
                              try clear q44
                              try clear hx44
                              try clear c52
                              try clear c52b0
                              try clear c52b1
                              try clear c53
                              try clear c55
                              try clear c55b0
                              try clear c55b1
                              try clear p64
                              try clear c65
                              try clear c65b0
                              try clear c65b1
                              try clear c67
                              try clear hx438_0
                              try clear hx438_1
                              try clear hx438_2
                              try clear hx438_3
                              try clear hx438_4
                              try clear hx438_5
                              try clear hx440_0
                              try clear hx440_1
                              try clear hx440_2
                              try clear hx440_3
                              try clear hx440_4
                              try clear hx440_5
                              try clear hx442_0
                              try clear hx442_1
                              try clear hx442_2
                              try clear hx442_3
                              try clear hx442_4
                              try clear hx442_5
                              try clear hx444_0
                              try clear hx444_1
                              try clear hx444_2
                              try clear hx444_3
                              try clear hx444_4
                              try clear hx444_5
                              try clear hx446_0
                              try clear hx446_1
                              try clear hx446_2
                              try clear hx446_3
                              try clear hx446_4
                              try clear hx446_5
                              try clear hx448_0
                              try clear hx448_1
                              try clear hx448_2
                              try clear hx448_3
                              try clear hx448_4
                              try clear hx448_5
                              try clear p2
                              try clear p4
                              try clear p43
                              try clear p438
                              try clear p44
                              try clear p440
                              try clear p442
                              try clear p444
                              try clear p446
                              try clear p448
                              try clear p6
                              try clear p64
                              try clear q4
                              try clear q43
                              try clear q438
                              try clear q44
                              try clear q440
                              try clear q442
                              try clear q444
                              try clear q446
                              try clear q448
                              obtain ⟨x26_5, x27_5, x28_5, rfl, rfl, rfl, HA, HK5, HO_14, HO_21, HO_24, HB⟩ := hrel
                              cases gk with
                              | zero => exact absurd HA.out (by simp [prebendlaw11_DrawRound.l1])
                              | succ k5 =>
                                have H := HA.out
                                clear HA
                                simp only [prebendlaw11_DrawRound.l1] at H
                                by_cases c68 : x28_5 < (t435.length : Int)
                                · rw [if_pos c68] at H
                                  have c68b0 : decide (x28_5 < (t435.length : Int)) = true := decide_eq_true c68
                                  clear c68
                                  by_cases c69 : 0 ≤ x28_5
                                  · rw [if_pos c69] at H
                                    have c69b0 : decide (0 ≤ x28_5) = true := decide_eq_true c69
                                    clear c69
                                    by_cases c70 : x28_5 < (t472.length : Int)
                                    · rw [if_pos c70] at H
                                      have c70b0 : decide (x28_5 < (t472.length : Int)) = true := decide_eq_true c70
                                      clear c70
                                      by_cases c71 : ((rd_T46 t435 x28_5).f4) = ((rd_T46 t472 x28_5).f4)
                                      · rw [if_pos c71] at H
                                        have c71b0 : (((rd_T46 t435 x28_5).f4) == ((rd_T46 t472 x28_5).f4)) = true := beq_iff_eq.mpr c71
                                        have c71b1 : (((rd_T46 t435 x28_5).f4) != ((rd_T46 t472 x28_5).f4)) = false := bne_eq_false_iff_eq.mpr c71
                                        clear c71
                                        by_cases c72 : (wrap64 (((rd_T46 t435 x28_5).f3) + ((rd_T46 t435 x28_5).f5))) = (wrap64 (((rd_T46 t472 x28_5).f3) + ((rd_T46 t472 x28_5).f5)))
                                        · rw [if_pos c72] at H
                                          have c72b0 : ((wrap64 (((rd_T46 t435 x28_5).f3) + ((rd_T46 t435 x28_5).f5))) == (wrap64 (((rd_T46 t472 x28_5).f3) + ((rd_T46 t472 x28_5).f5)))) = true := beq_iff_eq.mpr c72
                                          have c72b1 : ((wrap64 (((rd_T46 t435 x28_5).f3) + ((rd_T46 t435 x28_5).f5))) != (wrap64 (((rd_T46 t472 x28_5).f3) + ((rd_T46 t472 x28_5).f5)))) = false := bne_eq_false_iff_eq.mpr c72
                                          clear c72
                                          have H' := Aside0.mk H
                                          clear H
                                          have p476 : 0 ≤ (x28_5 : Int) := of_decide_eq_true (by first | (with_reducible assumption) | assumption)
                                          have q476 : x28_5 < (t435.length : Int) := of_decide_eq_true (by first | (with_reducible assumption) | assumption)
                                          obtain ⟨ad476, e476, hx476_0, hx476_1, hx476_2, hx476_3, hx476_4, hx476_5⟩ := at_T46 (Kd.V_reads' HO_14.out).2.2 x28_5 p476 q476
                                          cases e476
                                          replace p476 := eq_true p476
                                          replace q476 := eq_true q476
                                          obtain ⟨Ao73, co73, eo73⟩ := Kd.V_slice HO_24.out
                                          subst eo73
                                          have p477 : 0 ≤ (x28_5 : Int) := of_decide_eq_true (by first | (with_reducible assumption) | assumption)
                                          have q477 : x28_5 < (t472.length : Int) := of_decide_eq_true (by first | (with_reducible assumption) | assumption)
                                          obtain ⟨ad477, e477, hx477_0, hx477_1, hx477_2, hx477_3, hx477_4, hx477_5⟩ := at_T46 (Kd.V_reads' HO_24.out).2.2 x28_5 p477 q477
                                          cases e477
                                          replace p477 := eq_true p477
                                          replace q477 := eq_true q477
                                          have p478 : 0 ≤ (x28_5 : Int) := of_decide_eq_true (by first | (with_reducible assumption) | assumption)
                                          have q478 : x28_5 < (t435.length : Int) := of_decide_eq_true (by first | (with_reducible assumption) | assumption)
                                          obtain ⟨ad478, e478, hx478_0, hx478_1, hx478_2, hx478_3, hx478_4, hx478_5⟩ := at_T46 (Kd.V_reads' HO_14.out).2.2 x28_5 p478 q478
                                          obtain rfl : ad476 = ad478 := (by injection e478)
                                          replace p478 := eq_true p478
                                          replace q478 := eq_true q478
                                          have p479 : 0 ≤ (x28_5 : Int) := of_decide_eq_true (by first | (with_reducible assumption) | assumption)
                                          have q479 : x28_5 < (t472.length : Int) := of_decide_eq_true (by first | (with_reducible assumption) | assumption)
                                          obtain ⟨ad479, e479, hx479_0, hx479_1, hx479_2, hx479_3, hx479_4, hx479_5⟩ := at_T46 (Kd.V_reads' HO_24.out).2.2 x28_5 p479 q479
                                          obtain rfl : ad477 = ad479 := (by injection e479)
                                          replace p479 := eq_true p479
                                          replace q479 := eq_true q479
                                          have p480 : 0 ≤ (x28_5 : Int) := of_decide_eq_true (by first | (with_reducible assumption) | assumption)
                                          have q480 : x28_5 < (t435.length : Int) := of_decide_eq_true (by first | (with_reducible assumption) | assumption)
                                          obtain ⟨ad480, e480, hx480_0, hx480_1, hx480_2, hx480_3, hx480_4, hx480_5⟩ := at_T46 (Kd.V_reads' HO_14.out).2.2 x28_5 p480 q480
                                          obtain rfl : ad476 = ad480 := (by injection e480)
                                          replace p480 := eq_true p480
                                          replace q480 := eq_true q480
                                          have p481 : 0 ≤ (x28_5 : Int) := of_decide_eq_true (by first | (with_reducible assumption) | assumption)
                                          have q481 : x28_5 < (t435.length : Int) := of_decide_eq_true (by first | (with_reducible assumption) | assumption)
                                          obtain ⟨ad481, e481, hx481_0, hx481_1, hx481_2, hx481_3, hx481_4, hx481_5⟩ := at_T46 (Kd.V_reads' HO_14.out).2.2 x28_5 p481 q481
                                          obtain rfl : ad476 = ad481 := (by injection e481)
                                          replace p481 := eq_true p481
                                          replace q481 := eq_true q481
                                          have p482 : 0 ≤ (x28_5 : Int) := of_decide_eq_true (by first | (with_reducible assumption) | assumption)
                                          have q482 : x28_5 < (t472.length : Int) := of_decide_eq_true (by first | (with_reducible assumption) | assumption)
                                          obtain ⟨ad482, e482, hx482_0, hx482_1, hx482_2, hx482_3, hx482_4, hx482_5⟩ := at_T46 (Kd.V_reads' HO_24.out).2.2 x28_5 p482 q482
                                          obtain rfl : ad477 = ad482 := (by injection e482)
                                          replace p482 := eq_true p482
                                          replace q482 := eq_true q482
                                          have p483 : 0 ≤ (x28_5 : Int) := of_decide_eq_true (by first | (with_reducible assumption) | assumption)
                                          have q483 : x28_5 < (t472.length : Int) := of_decide_eq_true (by first | (with_reducible assumption) | assumption)
                                          obtain ⟨ad483, e483, hx483_0, hx483_1, hx483_2, hx483_3, hx483_4, hx483_5⟩ := at_T46 (Kd.V_reads' HO_24.out).2.2 x28_5 p483 q483
                                          obtain rfl : ad477 = ad483 := (by injection e483)
                                          replace p483 := eq_true p483
                                          replace q483 := eq_true q483
                                          go_wp2
                                          repeat (go_quiet (fail); try go_wp2)
                                          go_roundg k5
                                          case measure => have := HK1.out; have := HJ36.out; have := HJ46.out; have := HJ57.out; have := HK5.out; omega
                                          case rel => exact ⟨(wrap64 (x26_5 + ((rd_T46 t435 x28_5).f5))), (wrap64 (x27_5 + ((rd_T46 t472 x28_5).f5))), (wrap64 (x28_5 + 1)), (by first | rfl | (simp; done) | (simp [*]; done)), (by first | rfl | (simp; done) | (simp [*]; done)), (by first | rfl | (simp; done) | (simp [*]; done)), H', ⟨by have := HK1.out; have := HJ36.out; have := HJ46.out; have := HJ57.out; have := HK5.out; omega⟩, ⟨by (with_reducible repeat (first | apply Kd.V_alloc | apply Kd.V_drewN | apply Kd.V_drew)); exact HO_14.out⟩, ⟨by (with_reducible repeat (first | apply Kd.V_alloc | apply Kd.V_drewN | apply Kd.V_drew)); exact HO_21.out⟩, ⟨by (with_reducible repeat (first | apply Kd.V_alloc | apply Kd.V_drewN | apply Kd.V_drew)); exact HO_24.out⟩, ⟨by repeat (first | (with_reducible first | exact HB.out | apply below_alloc | apply pw_below_drewN | apply below_drew1) | exact HB.out)⟩⟩
                                        · rw [if_neg c72] at H
                                          have c72b0 : ((wrap64 (((rd_T46 t435 x28_5).f3) + ((rd_T46 t435 x28_5).f5))) == (wrap64 (((rd_T46 t472 x28_5).f3) + ((rd_T46 t472 x28_5).f5)))) = false := beq_eq_false_iff_ne.mpr c72
                                          have c72b1 : ((wrap64 (((rd_T46 t435 x28_5).f3) + ((rd_T46 t435 x28_5).f5))) != (wrap64 (((rd_T46 t472 x28_5).f3) + ((rd_T46 t472 x28_5).f5)))) = true := bne_iff_ne.mpr c72
                                          obtain rfl := Option.some.inj H
                                          have p476 : 0 ≤ (x28_5 : Int) := of_decide_eq_true (by first | (with_reducible assumption) | assumption)
                                          have q476 : x28_5 < (t435.length : Int) := of_decide_eq_true (by first | (with_reducible assumption) | assumption)
                                          obtain ⟨ad476, e476, hx476_0, hx476_1, hx476_2, hx476_3, hx476_4, hx476_5⟩ := at_T46 (Kd.V_reads' HO_14.out).2.2 x28_5 p476 q476
                                          cases e476
                                          replace p476 := eq_true p476
                                          replace q476 := eq_true q476
                                          obtain ⟨Ao74, co74, eo74⟩ := Kd.V_slice HO_24.out
                                          subst eo74
                                          have p477 : 0 ≤ (x28_5 : Int) := of_decide_eq_true (by first | (with_reducible assumption) | assumption)
                                          have q477 : x28_5 < (t472.length : Int) := of_decide_eq_true (by first | (with_reducible assumption) | assumption)
                                          obtain ⟨ad477, e477, hx477_0, hx477_1, hx477_2, hx477_3, hx477_4, hx477_5⟩ := at_T46 (Kd.V_reads' HO_24.out).2.2 x28_5 p477 q477
                                          cases e477
                                          replace p477 := eq_true p477
                                          replace q477 := eq_true q477
                                          have p478 : 0 ≤ (x28_5 : Int) := of_decide_eq_true (by first | (with_reducible assumption) | assumption)
                                          have q478 : x28_5 < (t435.length : Int) := of_decide_eq_true (by first | (with_reducible assumption) | assumption)
                                          obtain ⟨ad478, e478, hx478_0, hx478_1, hx478_2, hx478_3, hx478_4, hx478_5⟩ := at_T46 (Kd.V_reads' HO_14.out).2.2 x28_5 p478 q478
                                          obtain rfl : ad476 = ad478 := (by injection e478)
                                          replace p478 := eq_true p478
                                          replace q478 := eq_true q478
                                          have p479 : 0 ≤ (x28_5 : Int) := of_decide_eq_true (by first | (with_reducible assumption) | assumption)
                                          have q479 : x28_5 < (t472.length : Int) := of_decide_eq_true (by first | (with_reducible assumption) | assumption)
                                          obtain ⟨ad479, e479, hx479_0, hx479_1, hx479_2, hx479_3, hx479_4, hx479_5⟩ := at_T46 (Kd.V_reads' HO_24.out).2.2 x28_5 p479 q479
                                          obtain rfl : ad477 = ad479 := (by injection e479)
                                          replace p479 := eq_true p479
                                          replace q479 := eq_true q479
                                          have p480 : 0 ≤ (x28_5 : Int) := of_decide_eq_true (by first | (with_reducible assumption) | assumption)
                                          have q480 : x28_5 < (t435.length : Int) := of_decide_eq_true (by first | (with_reducible assumption) | assumption)
                                          obtain ⟨ad480, e480, hx480_0, hx480_1, hx480_2, hx480_3, hx480_4, hx480_5⟩ := at_T46 (Kd.V_reads' HO_14.out).2.2 x28_5 p480 q480
                                          obtain rfl : ad476 = ad480 := (by injection e480)
                                          replace p480 := eq_true p480
                                          replace q480 := eq_true q480
                                          have p481 : 0 ≤ (x28_5 : Int) := of_decide_eq_true (by first | (with_reducible assumption) | assumption)
                                          have q481 : x28_5 < (t435.length : Int) := of_decide_eq_true (by first | (with_reducible assumption) | assumption)
                                          obtain ⟨ad481, e481, hx481_0, hx481_1, hx481_2, hx481_3, hx481_4, hx481_5⟩ := at_T46 (Kd.V_reads' HO_14.out).2.2 x28_5 p481 q481
                                          obtain rfl : ad476 = ad481 := (by injection e481)
                                          replace p481 := eq_true p481
                                          replace q481 := eq_true q481
                                          have p482 : 0 ≤ (x28_5 : Int) := of_decide_eq_true (by first | (with_reducible assumption) | assumption)
                                          have q482 : x28_5 < (t472.length : Int) := of_decide_eq_true (by first | (with_reducible assumption) | assumption)
                                          obtain ⟨ad482, e482, hx482_0, hx482_1, hx482_2, hx482_3, hx482_4, hx482_5⟩ := at_T46 (Kd.V_reads' HO_24.out).2.2 x28_5 p482 q482
                                          obtain rfl : ad477 = ad482 := (by injection e482)
                                          replace p482 := eq_true p482
                                          replace q482 := eq_true q482
                                          have p483 : 0 ≤ (x28_5 : Int) := of_decide_eq_true (by first | (with_reducible assumption) | assumption)
                                          have q483 : x28_5 < (t472.length : Int) := of_decide_eq_true (by first | (with_reducible assumption) | assumption)
                                          obtain ⟨ad483, e483, hx483_0, hx483_1, hx483_2, hx483_3, hx483_4, hx483_5⟩ := at_T46 (Kd.V_reads' HO_24.out).2.2 x28_5 p483 q483
                                          obtain rfl : ad477 = ad483 := (by injection e483)
                                          replace p483 := eq_true p483
                                          replace q483 := eq_true q483
                                          go_wp2
                                          repeat (go_quiet (fail); try go_wp2)
                                          go_ret
                                          exact ⟨by first | rfl | (simp [errW_none, errW_some] <;> rfl) | (simp [*, errW_none, errW_some] <;> rfl), by repeat (first | (with_reducible first | exact HB.out | apply below_alloc | apply pw_below_drewN | apply below_drew1) | exact HB.out)⟩
                                      · rw [if_neg c71] at H
                                        have c71b0 : (((rd_T46 t435 x28_5).f4) == ((rd_T46 t472 x28_5).f4)) = false := beq_eq_false_iff_ne.mpr c71
                                        have c71b1 : (((rd_T46 t435 x28_5).f4) != ((rd_T46 t472 x28_5).f4)) = true := bne_iff_ne.mpr c71
                                        obtain rfl := Option.some.inj H
                                        have p476 : 0 ≤ (x28_5 : Int) := of_decide_eq_true (by first | (with_reducible assumption) | assumption)
                                        have q476 : x28_5 < (t435.length : Int) := of_decide_eq_true (by first | (with_reducible assumption) | assumption)
                                        obtain ⟨ad476, e476, hx476_0, hx476_1, hx476_2, hx476_3, hx476_4, hx476_5⟩ := at_T46 (Kd.V_reads' HO_14.out).2.2 x28_5 p476 q476
                                        cases e476
                                        replace p476 := eq_true p476
                                        replace q476 := eq_true q476
                                        obtain ⟨Ao75, co75, eo75⟩ := Kd.V_slice HO_24.out
                                        subst eo75
                                        have p477 : 0 ≤ (x28_5 : Int) := of_decide_eq_true (by first | (with_reducible assumption) | assumption)
                                        have q477 : x28_5 < (t472.length : Int) := of_decide_eq_true (by first | (with_reducible assumption) | assumption)
                                        obtain ⟨ad477, e477, hx477_0, hx477_1, hx477_2, hx477_3, hx477_4, hx477_5⟩ := at_T46 (Kd.V_reads' HO_24.out).2.2 x28_5 p477 q477
                                        cases e477
                                        replace p477 := eq_true p477
                                        replace q477 := eq_true q477
                                        have p478 : 0 ≤ (x28_5 : Int) := of_decide_eq_true (by first | (with_reducible assumption) | assumption)
                                        have q478 : x28_5 < (t435.length : Int) := of_decide_eq_true (by first | (with_reducible assumption) | assumption)
                                        obtain ⟨ad478, e478, hx478_0, hx478_1, hx478_2, hx478_3, hx478_4, hx478_5⟩ := at_T46 (Kd.V_reads' HO_14.out).2.2 x28_5 p478 q478
                                        obtain rfl : ad476 = ad478 := (by injection e478)
                                        replace p478 := eq_true p478
                                        replace q478 := eq_true q478
                                        have p479 : 0 ≤ (x28_5 : Int) := of_decide_eq_true (by first | (with_reducible assumption) | assumption)
                                        have q479 : x28_5 < (t472.length : Int) := of_decide_eq_true (by first | (with_reducible assumption) | assumption)
                                        obtain ⟨ad479, e479, hx479_0, hx479_1, hx479_2, hx479_3, hx479_4, hx479_5⟩ := at_T46 (Kd.V_reads' HO_24.out).2.2 x28_5 p479 q479
                                        obtain rfl : ad477 = ad479 := (by injection e479)
                                        replace p479 := eq_true p479
                                        replace q479 := eq_true q479
                                        go_wp2
                                        repeat (go_quiet (fail); try go_wp2)
                                        go_ret
                                        exact ⟨by first | rfl | (simp [errW_none, errW_some] <;> rfl) | (simp [*, errW_none, errW_some] <;> rfl), by repeat (first | (with_reducible first | exact HB.out | apply below_alloc | apply pw_below_drewN | apply below_drew1) | exact HB.out)⟩
                                    · rw [if_neg c70] at H
                                      exact absurd H (by simp)
                                  · rw [if_neg c69] at H
                                    exact absurd H (by simp)
                                · rw [if_neg c68] at H
                                  have c68b0 : decide (x28_5 < (t435.length : Int)) = false := decide_eq_false c68
                                  clear c68
                                  by_cases c76 : (wrap64 (x27_5 - x26_5)) = a5
                                  · rw [if_pos c76] at H
                                    have c76b0 : ((wrap64 (x27_5 - x26_5)) == a5) = true := beq_iff_eq.mpr c76
                                    have c76b1 : ((wrap64 (x27_5 - x26_5)) != a5) = false := bne_eq_false_iff_eq.mpr c76
                                    clear c76
                                    by_cases c77 : a5 = 0
                                    · rw [if_pos c77] at H
                                      have c77b0 : (a5 == 0) = true := beq_iff_eq.mpr c77
                                      have c77b1 : (a5 != 0) = false := bne_eq_false_iff_eq.mpr c77
                                      clear c77
                                      replace H := Option.bind_eq_some_iff.mp H
                                      obtain ⟨t484, A780, H⟩ := H
                                      replace H : (some t484) = some r := H
                                      have A78 := Aside0.mk A780
                                      clear A780
                                      obtain rfl := Option.some.inj H
                                      go_wp2_with (first | (go_at_call 11; (with_reducible refine (prebendlaw11_awake.calls k5  t484 _ A78.out).mono ?_); rintro e w79 ⟨rfl, hb⟩; have n0_ := Aside0.mk (Kd.V_below (by (with_reducible repeat (first | apply Kd.V_alloc | apply Kd.V_drewN | apply Kd.V_drew)); exact HO_14.out) hb); have n1_ := Aside0.mk (Kd.V_below (by (with_reducible repeat (first | apply Kd.V_alloc | apply Kd.V_drewN | apply Kd.V_drew)); exact HO_21.out) hb); have n2_ := Aside0.mk (Kd.V_below (by (with_reducible repeat (first | apply Kd.V_alloc | apply Kd.V_drewN | apply Kd.V_drew)); exact HO_24.out) hb); have n3_ := Aside0.mk (below_step (by repeat (first | (with_reducible first | exact HB.out | apply below_alloc | apply pw_below_drewN | apply below_drew1) | exact HB.out)) hb); clear HO_14; clear HO_21; clear HO_24; clear HB; have HO_14 := n0_; have HO_21 := n1_; have HO_24 := n2_; have HB := n3_; clear n0_ n1_ n2_ n3_; (try clear hb); (try clear hb2); (try clear hk); (try clear hi)))
                                      repeat (go_quiet (first | (go_at_call 11; (with_reducible refine (prebendlaw11_awake.calls k5  t484 _ A78.out).mono ?_); rintro e w79 ⟨rfl, hb⟩; have n0_ := Aside0.mk (Kd.V_below (by (with_reducible repeat (first | apply Kd.V_alloc | apply Kd.V_drewN | apply Kd.V_drew)); exact HO_14.out) hb); have n1_ := Aside0.mk (Kd.V_below (by (with_reducible repeat (first | apply Kd.V_alloc | apply Kd.V_drewN | apply Kd.V_drew)); exact HO_21.out) hb); have n2_ := Aside0.mk (Kd.V_below (by (with_reducible repeat (first | apply Kd.V_alloc | apply Kd.V_drewN | apply Kd.V_drew)); exact HO_24.out) hb); have n3_ := Aside0.mk (below_step (by repeat (first | (with_reducible first | exact HB.out | apply below_alloc | apply pw_below_drewN | apply below_drew1) | exact HB.out)) hb); clear HO_14; clear HO_21; clear HO_24; clear HB; have HO_14 := n0_; have HO_21 := n1_; have HO_24 := n2_; have HB := n3_; clear n0_ n1_ n2_ n3_; (try clear hb); (try clear hb2); (try clear hk); (try clear hi))); try go_wp2_with (first | (go_at_call 11; (with_reducible refine (prebendlaw11_awake.calls k5  t484 _ A78.out).mono ?_); rintro e w79 ⟨rfl, hb⟩; have n0_ := Aside0.mk (Kd.V_below (by (with_reducible repeat (first | apply Kd.V_alloc | apply Kd.V_drewN | apply Kd.V_drew)); exact HO_14.out) hb); have n1_ := Aside0.mk (Kd.V_below (by (with_reducible repeat (first | apply Kd.V_alloc | apply Kd.V_drewN | apply Kd.V_drew)); exact HO_21.out) hb); have n2_ := Aside0.mk (Kd.V_below (by (with_reducible repeat (first | apply Kd.V_alloc | apply Kd.V_drewN | apply Kd.V_drew)); exact HO_24.out) hb); have n3_ := Aside0.mk (below_step (by repeat (first | (with_reducible first | exact HB.out | apply below_alloc | apply pw_below_drewN | apply below_drew1) | exact HB.out)) hb); clear HO_14; clear HO_21; clear HO_24; clear HB; have HO_14 := n0_; have HO_21 := n1_; have HO_24 := n2_; have HB := n3_; clear n0_ n1_ n2_ n3_; (try clear hb); (try clear hb2); (try clear hk); (try clear hi))))
                                      go_ret
                                      exact ⟨by first | rfl | (simp [errW_none, errW_some] <;> rfl) | (simp [*, errW_none, errW_some] <;> rfl), by repeat (first | (with_reducible first | exact HB.out | apply below_alloc | apply pw_below_drewN | apply below_drew1) | exact HB.out)⟩
                                    · rw [if_neg c77] at H
                                      have c77b0 : (a5 == 0) = false := beq_eq_false_iff_ne.mpr c77
                                      have c77b1 : (a5 != 0) = true := bne_iff_ne.mpr c77
                                      replace H := Option.bind_eq_some_iff.mp H
                                      obtain ⟨t485, A800, H⟩ := H
                                      replace H : ((ledger_Post.f k5 0 t472 t485).bind fun bt488 => ((prebendlaw11_awake.f k5).bind fun t493 => (if t493 = true then (if bt488.2.2 = 0 then ((prebendref09_Same.f k5 bt488.2.1 t435).bind fun t494 => (some t494)) else (some false)) else (some false)))) = some r := H
                                      have A80 := Aside0.mk A800
                                      clear A800
                                      replace H := Option.bind_eq_some_iff.mp H
                                      obtain ⟨⟨t488, t489, t492⟩, A810, H⟩ := H
                                      replace H : ((prebendlaw11_awake.f k5).bind fun t493 => (if t493 = true then (if t492 = 0 then ((prebendref09_Same.f k5 t489 t435).bind fun t494 => (some t494)) else (some false)) else (some false))) = some r := H
                                      have A81 := Aside0.mk A810
                                      clear A810
                                      replace H := Option.bind_eq_some_iff.mp H
                                      obtain ⟨t493, A820, H⟩ := H
                                      replace H : (if t493 = true then (if t492 = 0 then ((prebendref09_Same.f k5 t489 t435).bind fun t494 => (some t494)) else (some false)) else (some false)) = some r := H
                                      have A82 := Aside0.mk A820
                                      clear A820
                                      by_cases c83 : t493 = true
                                      · subst c83
                                        have H1 : (if t492 = 0 then ((prebendref09_Same.f k5 t489 t435).bind fun t494 => (some t494)) else (some false)) = some r := by rw [if_pos rfl] at H; exact H
                                        clear H
                                        have H := H1
                                        clear H1
                                        by_cases c84 : t492 = 0
                                        · rw [if_pos c84] at H
                                          have c84b0 : (t492 == 0) = true := beq_iff_eq.mpr c84
                                          have c84b1 : (t492 != 0) = false := bne_eq_false_iff_eq.mpr c84
                                          clear c84
                                          replace H := Option.bind_eq_some_iff.mp H
                                          obtain ⟨t494, A850, H⟩ := H
                                          replace H : (some t494) = some r := H
                                          have A85 := Aside0.mk A850
                                          clear A850
                                          obtain rfl := Option.some.inj H
                                          go_wp2_with (first | (go_at_call 18; (with_reducible refine (draw_Back.calls k5 _ _ t463 t485 _ ?side1 ?side2 A80.out).mono ?_); (case side1 => repeat (first | exact (Kd.V_reads' HO_21.out).2.2 | (with_reducible refine Kd.C_alloc ?_ _) | (with_reducible refine Kd.C_drewN ?_ _) | (with_reducible refine Kd.C_drew ?_))); (case side2 => exact (Kd.V_reads' HO_21.out).2.1); rintro e w86 ⟨v486, rfl, ho0, hb⟩; have n0_ := Aside0.mk (Kd.V_below (by (with_reducible repeat (first | apply Kd.V_alloc | apply Kd.V_drewN | apply Kd.V_drew)); exact HO_14.out) hb); have n1_ := Aside0.mk (Kd.V_below (by (with_reducible repeat (first | apply Kd.V_alloc | apply Kd.V_drewN | apply Kd.V_drew)); exact HO_21.out) hb); have n2_ := Aside0.mk (Kd.V_below (by (with_reducible repeat (first | apply Kd.V_alloc | apply Kd.V_drewN | apply Kd.V_drew)); exact HO_24.out) hb); have n3_ := Aside0.mk (Kd.V_lower (Kd.V_mono (ok' := fun k_ => True) ho0 (fun k_ hk_ => trivial)) (below_size (by repeat (first | (with_reducible first | exact HB.out | apply below_alloc | apply pw_below_drewN | apply below_drew1) | exact HB.out)))); have n4_ := Aside0.mk (below_step (by repeat (first | (with_reducible first | exact HB.out | apply below_alloc | apply pw_below_drewN | apply below_drew1) | exact HB.out)) hb); clear HO_14; clear HO_21; clear HO_24; clear HB; have HO_14 := n0_; have HO_21 := n1_; have HO_24 := n2_; have HO487 := n3_; have HB := n4_; clear n0_ n1_ n2_ n3_ n4_; (try clear hb); (try clear hb2); (try clear hk); (try clear hi); (try clear ho0); obtain ⟨Ao87, co87, eo87⟩ := Kd.V_slice HO_24.out; subst eo87; obtain ⟨Ao88, co88, eo88⟩ := Kd.V_slice HO487.out; subst eo88) | (go_at_call 25; (with_reducible refine (ledger_Post.calls k5 0 _ _ t472 _ _ t485 t488 t489 t492 _ ?side1 ?side2 ?side3 ?side4 A81.out).mono ?_); (case side1 => repeat (first | exact (Kd.V_reads' HO_24.out).2.2 | (with_reducible refine Kd.C_alloc ?_ _) | (with_reducible refine Kd.C_drewN ?_ _) | (with_reducible refine Kd.C_drew ?_))); (case side2 => exact (Kd.V_reads' HO_24.out).2.1); (case side3 => repeat (first | exact (Kd.V_reads' HO487.out).2.2 | (with_reducible refine Kd.C_alloc ?_ _) | (with_reducible refine Kd.C_drewN ?_ _) | (with_reducible refine Kd.C_drew ?_))); (case side4 => exact (Kd.V_reads' HO487.out).2.1); rintro e w89 ⟨v490, rfl, ho0, hb⟩; have n0_ := Aside0.mk (Kd.V_below (by (with_reducible repeat (first | apply Kd.V_alloc | apply Kd.V_drewN | apply Kd.V_drew)); exact HO_14.out) hb); have n1_ := Aside0.mk (Kd.V_below (by (with_reducible repeat (first | apply Kd.V_alloc | apply Kd.V_drewN | apply Kd.V_drew)); exact HO_21.out) hb); have n2_ := Aside0.mk (Kd.V_below (by (with_reducible repeat (first | apply Kd.V_alloc | apply Kd.V_drewN | apply Kd.V_drew)); exact HO_24.out) hb); have n3_ := Aside0.mk (Kd.V_below (by (with_reducible repeat (first | apply Kd.V_alloc | apply Kd.V_drewN | apply Kd.V_drew)); exact HO487.out) hb); have n4_ := Aside0.mk (Kd.V_lower (Kd.V_mono (ok' := fun k_ => True) ho0 (fun k_ hk_ => trivial)) (below_size (by repeat (first | (with_reducible first | exact HB.out | apply below_alloc | apply pw_below_drewN | apply below_drew1) | exact HB.out)))); have n5_ := Aside0.mk (below_step (by repeat (first | (with_reducible first | exact HB.out | apply below_alloc | apply pw_below_drewN | apply below_drew1) | exact HB.out)) hb); clear HO_14; clear HO_21; clear HO_24; clear HO487; clear HB; have HO_14 := n0_; have HO_21 := n1_; have HO_24 := n2_; have HO487 := n3_; have HO491 := n4_; have HB := n5_; clear n0_ n1_ n2_ n3_ n4_ n5_; (try clear hb); (try clear hb2); (try clear hk); (try clear hi); (try clear ho0)) | (go_at_call 11; (with_reducible refine (prebendlaw11_awake.calls k5  true _ A82.out).mono ?_); rintro e w90 ⟨rfl, hb⟩; have n0_ := Aside0.mk (Kd.V_below (by (with_reducible repeat (first | apply Kd.V_alloc | apply Kd.V_drewN | apply Kd.V_drew)); exact HO_14.out) hb); have n1_ := Aside0.mk (Kd.V_below (by (with_reducible repeat (first | apply Kd.V_alloc | apply Kd.V_drewN | apply Kd.V_drew)); exact HO_21.out) hb); have n2_ := Aside0.mk (Kd.V_below (by (with_reducible repeat (first | apply Kd.V_alloc | apply Kd.V_drewN | apply Kd.V_drew)); exact HO_24.out) hb); have n3_ := Aside0.mk (Kd.V_below (by (with_reducible repeat (first | apply Kd.V_alloc | apply Kd.V_drewN | apply Kd.V_drew)); exact HO487.out) hb); have n4_ := Aside0.mk (Kd.V_below (by (with_reducible repeat (first | apply Kd.V_alloc | apply Kd.V_drewN | apply Kd.V_drew)); exact HO491.out) hb); have n5_ := Aside0.mk (below_step (by repeat (first | (with_reducible first | exact HB.out | apply below_alloc | apply pw_below_drewN | apply below_drew1) | exact HB.out)) hb); clear HO_14; clear HO_21; clear HO_24; clear HO487; clear HO491; clear HB; have HO_14 := n0_; have HO_21 := n1_; have HO_24 := n2_; have HO487 := n3_; have HO491 := n4_; have HB := n5_; clear n0_ n1_ n2_ n3_ n4_ n5_; (try clear hb); (try clear hb2); (try clear hk); (try clear hi); obtain ⟨Ao91, co91, eo91⟩ := Kd.V_slice HO491.out; subst eo91) | (go_at_call 26; (with_reducible refine (prebendref09_Same.calls k5 _ _ t489 _ _ t435 t494 _ ?side1 ?side2 ?side3 ?side4 A85.out).mono ?_); (case side1 => repeat (first | exact (Kd.V_reads' HO491.out).2.2 | (with_reducible refine Kd.C_alloc ?_ _) | (with_reducible refine Kd.C_drewN ?_ _) | (with_reducible refine Kd.C_drew ?_))); (case side2 => exact (Kd.V_reads' HO491.out).2.1); (case side3 => repeat (first | exact (Kd.V_reads' HO_14.out).2.2 | (with_reducible refine Kd.C_alloc ?_ _) | (with_reducible refine Kd.C_drewN ?_ _) | (with_reducible refine Kd.C_drew ?_))); (case side4 => exact (Kd.V_reads' HO_14.out).2.1); rintro e w' ⟨rfl, ⟨nd, rfl⟩⟩; (try first | exact ⟨rfl, _, World.drewN_drewN _ _ _⟩ | exact ⟨rfl, _, Eq.trans (World.drewN_drewN _ _ _) (congrArg (World.drewN _) (Nat.add_assoc _ _ _))⟩)))
                                          repeat (go_quiet (first | (go_at_call 18; (with_reducible refine (draw_Back.calls k5 _ _ t463 t485 _ ?side1 ?side2 A80.out).mono ?_); (case side1 => repeat (first | exact (Kd.V_reads' HO_21.out).2.2 | (with_reducible refine Kd.C_alloc ?_ _) | (with_reducible refine Kd.C_drewN ?_ _) | (with_reducible refine Kd.C_drew ?_))); (case side2 => exact (Kd.V_reads' HO_21.out).2.1); rintro e w86 ⟨v486, rfl, ho0, hb⟩; have n0_ := Aside0.mk (Kd.V_below (by (with_reducible repeat (first | apply Kd.V_alloc | apply Kd.V_drewN | apply Kd.V_drew)); exact HO_14.out) hb); have n1_ := Aside0.mk (Kd.V_below (by (with_reducible repeat (first | apply Kd.V_alloc | apply Kd.V_drewN | apply Kd.V_drew)); exact HO_21.out) hb); have n2_ := Aside0.mk (Kd.V_below (by (with_reducible repeat (first | apply Kd.V_alloc | apply Kd.V_drewN | apply Kd.V_drew)); exact HO_24.out) hb); have n3_ := Aside0.mk (Kd.V_lower (Kd.V_mono (ok' := fun k_ => True) ho0 (fun k_ hk_ => trivial)) (below_size (by repeat (first | (with_reducible first | exact HB.out | apply below_alloc | apply pw_below_drewN | apply below_drew1) | exact HB.out)))); have n4_ := Aside0.mk (below_step (by repeat (first | (with_reducible first | exact HB.out | apply below_alloc | apply pw_below_drewN | apply below_drew1) | exact HB.out)) hb); clear HO_14; clear HO_21; clear HO_24; clear HB; have HO_14 := n0_; have HO_21 := n1_; have HO_24 := n2_; have HO487 := n3_; have HB := n4_; clear n0_ n1_ n2_ n3_ n4_; (try clear hb); (try clear hb2); (try clear hk); (try clear hi); (try clear ho0); obtain ⟨Ao87, co87, eo87⟩ := Kd.V_slice HO_24.out; subst eo87; obtain ⟨Ao88, co88, eo88⟩ := Kd.V_slice HO487.out; subst eo88) | (go_at_call 25; (with_reducible refine (ledger_Post.calls k5 0 _ _ t472 _ _ t485 t488 t489 t492 _ ?side1 ?side2 ?side3 ?side4 A81.out).mono ?_); (case side1 => repeat (first | exact (Kd.V_reads' HO_24.out).2.2 | (with_reducible refine Kd.C_alloc ?_ _) | (with_reducible refine Kd.C_drewN ?_ _) | (with_reducible refine Kd.C_drew ?_))); (case side2 => exact (Kd.V_reads' HO_24.out).2.1); (case side3 => repeat (first | exact (Kd.V_reads' HO487.out).2.2 | (with_reducible refine Kd.C_alloc ?_ _) | (with_reducible refine Kd.C_drewN ?_ _) | (with_reducible refine Kd.C_drew ?_))); (case side4 => exact (Kd.V_reads' HO487.out).2.1); rintro e w89 ⟨v490, rfl, ho0, hb⟩; have n0_ := Aside0.mk (Kd.V_below (by (with_reducible repeat (first | apply Kd.V_alloc | apply Kd.V_drewN | apply Kd.V_drew)); exact HO_14.out) hb); have n1_ := Aside0.mk (Kd.V_below (by (with_reducible repeat (first | apply Kd.V_alloc | apply Kd.V_drewN | apply Kd.V_drew)); exact HO_21.out) hb); have n2_ := Aside0.mk (Kd.V_below (by (with_reducible repeat (first | apply Kd.V_alloc | apply Kd.V_drewN | apply Kd.V_drew)); exact HO_24.out) hb); have n3_ := Aside0.mk (Kd.V_below (by (with_reducible repeat (first | apply Kd.V_alloc | apply Kd.V_drewN | apply Kd.V_drew)); exact HO487.out) hb); have n4_ := Aside0.mk (Kd.V_lower (Kd.V_mono (ok' := fun k_ => True) ho0 (fun k_ hk_ => trivial)) (below_size (by repeat (first | (with_reducible first | exact HB.out | apply below_alloc | apply pw_below_drewN | apply below_drew1) | exact HB.out)))); have n5_ := Aside0.mk (below_step (by repeat (first | (with_reducible first | exact HB.out | apply below_alloc | apply pw_below_drewN | apply below_drew1) | exact HB.out)) hb); clear HO_14; clear HO_21; clear HO_24; clear HO487; clear HB; have HO_14 := n0_; have HO_21 := n1_; have HO_24 := n2_; have HO487 := n3_; have HO491 := n4_; have HB := n5_; clear n0_ n1_ n2_ n3_ n4_ n5_; (try clear hb); (try clear hb2); (try clear hk); (try clear hi); (try clear ho0)) | (go_at_call 11; (with_reducible refine (prebendlaw11_awake.calls k5  true _ A82.out).mono ?_); rintro e w90 ⟨rfl, hb⟩; have n0_ := Aside0.mk (Kd.V_below (by (with_reducible repeat (first | apply Kd.V_alloc | apply Kd.V_drewN | apply Kd.V_drew)); exact HO_14.out) hb); have n1_ := Aside0.mk (Kd.V_below (by (with_reducible repeat (first | apply Kd.V_alloc | apply Kd.V_drewN | apply Kd.V_drew)); exact HO_21.out) hb); have n2_ := Aside0.mk (Kd.V_below (by (with_reducible repeat (first | apply Kd.V_alloc | apply Kd.V_drewN | apply Kd.V_drew)); exact HO_24.out) hb); have n3_ := Aside0.mk (Kd.V_below (by (with_reducible repeat (first | apply Kd.V_alloc | apply Kd.V_drewN | apply Kd.V_drew)); exact HO487.out) hb); have n4_ := Aside0.mk (Kd.V_below (by (with_reducible repeat (first | apply Kd.V_alloc | apply Kd.V_drewN | apply Kd.V_drew)); exact HO491.out) hb); have n5_ := Aside0.mk (below_step (by repeat (first | (with_reducible first | exact HB.out | apply below_alloc | apply pw_below_drewN | apply below_drew1) | exact HB.out)) hb); clear HO_14; clear HO_21; clear HO_24; clear HO487; clear HO491; clear HB; have HO_14 := n0_; have HO_21 := n1_; have HO_24 := n2_; have HO487 := n3_; have HO491 := n4_; have HB := n5_; clear n0_ n1_ n2_ n3_ n4_ n5_; (try clear hb); (try clear hb2); (try clear hk); (try clear hi); obtain ⟨Ao91, co91, eo91⟩ := Kd.V_slice HO491.out; subst eo91) | (go_at_call 26; (with_reducible refine (prebendref09_Same.calls k5 _ _ t489 _ _ t435 t494 _ ?side1 ?side2 ?side3 ?side4 A85.out).mono ?_); (case side1 => repeat (first | exact (Kd.V_reads' HO491.out).2.2 | (with_reducible refine Kd.C_alloc ?_ _) | (with_reducible refine Kd.C_drewN ?_ _) | (with_reducible refine Kd.C_drew ?_))); (case side2 => exact (Kd.V_reads' HO491.out).2.1); (case side3 => repeat (first | exact (Kd.V_reads' HO_14.out).2.2 | (with_reducible refine Kd.C_alloc ?_ _) | (with_reducible refine Kd.C_drewN ?_ _) | (with_reducible refine Kd.C_drew ?_))); (case side4 => exact (Kd.V_reads' HO_14.out).2.1); rintro e w' ⟨rfl, ⟨nd, rfl⟩⟩; (try first | exact ⟨rfl, _, World.drewN_drewN _ _ _⟩ | exact ⟨rfl, _, Eq.trans (World.drewN_drewN _ _ _) (congrArg (World.drewN _) (Nat.add_assoc _ _ _))⟩))); try go_wp2_with (first | (go_at_call 18; (with_reducible refine (draw_Back.calls k5 _ _ t463 t485 _ ?side1 ?side2 A80.out).mono ?_); (case side1 => repeat (first | exact (Kd.V_reads' HO_21.out).2.2 | (with_reducible refine Kd.C_alloc ?_ _) | (with_reducible refine Kd.C_drewN ?_ _) | (with_reducible refine Kd.C_drew ?_))); (case side2 => exact (Kd.V_reads' HO_21.out).2.1); rintro e w86 ⟨v486, rfl, ho0, hb⟩; have n0_ := Aside0.mk (Kd.V_below (by (with_reducible repeat (first | apply Kd.V_alloc | apply Kd.V_drewN | apply Kd.V_drew)); exact HO_14.out) hb); have n1_ := Aside0.mk (Kd.V_below (by (with_reducible repeat (first | apply Kd.V_alloc | apply Kd.V_drewN | apply Kd.V_drew)); exact HO_21.out) hb); have n2_ := Aside0.mk (Kd.V_below (by (with_reducible repeat (first | apply Kd.V_alloc | apply Kd.V_drewN | apply Kd.V_drew)); exact HO_24.out) hb); have n3_ := Aside0.mk (Kd.V_lower (Kd.V_mono (ok' := fun k_ => True) ho0 (fun k_ hk_ => trivial)) (below_size (by repeat (first | (with_reducible first | exact HB.out | apply below_alloc | apply pw_below_drewN | apply below_drew1) | exact HB.out)))); have n4_ := Aside0.mk (below_step (by repeat (first | (with_reducible first | exact HB.out | apply below_alloc | apply pw_below_drewN | apply below_drew1) | exact HB.out)) hb); clear HO_14; clear HO_21; clear HO_24; clear HB; have HO_14 := n0_; have HO_21 := n1_; have HO_24 := n2_; have HO487 := n3_; have HB := n4_; clear n0_ n1_ n2_ n3_ n4_; (try clear hb); (try clear hb2); (try clear hk); (try clear hi); (try clear ho0); obtain ⟨Ao87, co87, eo87⟩ := Kd.V_slice HO_24.out; subst eo87; obtain ⟨Ao88, co88, eo88⟩ := Kd.V_slice HO487.out; subst eo88) | (go_at_call 25; (with_reducible refine (ledger_Post.calls k5 0 _ _ t472 _ _ t485 t488 t489 t492 _ ?side1 ?side2 ?side3 ?side4 A81.out).mono ?_); (case side1 => repeat (first | exact (Kd.V_reads' HO_24.out).2.2 | (with_reducible refine Kd.C_alloc ?_ _) | (with_reducible refine Kd.C_drewN ?_ _) | (with_reducible refine Kd.C_drew ?_))); (case side2 => exact (Kd.V_reads' HO_24.out).2.1); (case side3 => repeat (first | exact (Kd.V_reads' HO487.out).2.2 | (with_reducible refine Kd.C_alloc ?_ _) | (with_reducible refine Kd.C_drewN ?_ _) | (with_reducible refine Kd.C_drew ?_))); (case side4 => exact (Kd.V_reads' HO487.out).2.1); rintro e w89 ⟨v490, rfl, ho0, hb⟩; have n0_ := Aside0.mk (Kd.V_below (by (with_reducible repeat (first | apply Kd.V_alloc | apply Kd.V_drewN | apply Kd.V_drew)); exact HO_14.out) hb); have n1_ := Aside0.mk (Kd.V_below (by (with_reducible repeat (first | apply Kd.V_alloc | apply Kd.V_drewN | apply Kd.V_drew)); exact HO_21.out) hb); have n2_ := Aside0.mk (Kd.V_below (by (with_reducible repeat (first | apply Kd.V_alloc | apply Kd.V_drewN | apply Kd.V_drew)); exact HO_24.out) hb); have n3_ := Aside0.mk (Kd.V_below (by (with_reducible repeat (first | apply Kd.V_alloc | apply Kd.V_drewN | apply Kd.V_drew)); exact HO487.out) hb); have n4_ := Aside0.mk (Kd.V_lower (Kd.V_mono (ok' := fun k_ => True) ho0 (fun k_ hk_ => trivial)) (below_size (by repeat (first | (with_reducible first | exact HB.out | apply below_alloc | apply pw_below_drewN | apply below_drew1) | exact HB.out)))); have n5_ := Aside0.mk (below_step (by repeat (first | (with_reducible first | exact HB.out | apply below_alloc | apply pw_below_drewN | apply below_drew1) | exact HB.out)) hb); clear HO_14; clear HO_21; clear HO_24; clear HO487; clear HB; have HO_14 := n0_; have HO_21 := n1_; have HO_24 := n2_; have HO487 := n3_; have HO491 := n4_; have HB := n5_; clear n0_ n1_ n2_ n3_ n4_ n5_; (try clear hb); (try clear hb2); (try clear hk); (try clear hi); (try clear ho0)) | (go_at_call 11; (with_reducible refine (prebendlaw11_awake.calls k5  true _ A82.out).mono ?_); rintro e w90 ⟨rfl, hb⟩; have n0_ := Aside0.mk (Kd.V_below (by (with_reducible repeat (first | apply Kd.V_alloc | apply Kd.V_drewN | apply Kd.V_drew)); exact HO_14.out) hb); have n1_ := Aside0.mk (Kd.V_below (by (with_reducible repeat (first | apply Kd.V_alloc | apply Kd.V_drewN | apply Kd.V_drew)); exact HO_21.out) hb); have n2_ := Aside0.mk (Kd.V_below (by (with_reducible repeat (first | apply Kd.V_alloc | apply Kd.V_drewN | apply Kd.V_drew)); exact HO_24.out) hb); have n3_ := Aside0.mk (Kd.V_below (by (with_reducible repeat (first | apply Kd.V_alloc | apply Kd.V_drewN | apply Kd.V_drew)); exact HO487.out) hb); have n4_ := Aside0.mk (Kd.V_below (by (with_reducible repeat (first | apply Kd.V_alloc | apply Kd.V_drewN | apply Kd.V_drew)); exact HO491.out) hb); have n5_ := Aside0.mk (below_step (by repeat (first | (with_reducible first | exact HB.out | apply below_alloc | apply pw_below_drewN | apply below_drew1) | exact HB.out)) hb); clear HO_14; clear HO_21; clear HO_24; clear HO487; clear HO491; clear HB; have HO_14 := n0_; have HO_21 := n1_; have HO_24 := n2_; have HO487 := n3_; have HO491 := n4_; have HB := n5_; clear n0_ n1_ n2_ n3_ n4_ n5_; (try clear hb); (try clear hb2); (try clear hk); (try clear hi); obtain ⟨Ao91, co91, eo91⟩ := Kd.V_slice HO491.out; subst eo91) | (go_at_call 26; (with_reducible refine (prebendref09_Same.calls k5 _ _ t489 _ _ t435 t494 _ ?side1 ?side2 ?side3 ?side4 A85.out).mono ?_); (case side1 => repeat (first | exact (Kd.V_reads' HO491.out).2.2 | (with_reducible refine Kd.C_alloc ?_ _) | (with_reducible refine Kd.C_drewN ?_ _) | (with_reducible refine Kd.C_drew ?_))); (case side2 => exact (Kd.V_reads' HO491.out).2.1); (case side3 => repeat (first | exact (Kd.V_reads' HO_14.out).2.2 | (with_reducible refine Kd.C_alloc ?_ _) | (with_reducible refine Kd.C_drewN ?_ _) | (with_reducible refine Kd.C_drew ?_))); (case side4 => exact (Kd.V_reads' HO_14.out).2.1); rintro e w' ⟨rfl, ⟨nd, rfl⟩⟩; (try first | exact ⟨rfl, _, World.drewN_drewN _ _ _⟩ | exact ⟨rfl, _, Eq.trans (World.drewN_drewN _ _ _) (congrArg (World.drewN _) (Nat.add_assoc _ _ _))⟩))))
                                          go_ret
                                          exact ⟨by first | rfl | (simp [errW_none, errW_some] <;> rfl) | (simp [*, errW_none, errW_some] <;> rfl), by repeat (first | (with_reducible first | exact HB.out | apply below_alloc | apply pw_below_drewN | apply below_drew1) | exact HB.out)⟩
                                        · rw [if_neg c84] at H
                                          have c84b0 : (t492 == 0) = false := beq_eq_false_iff_ne.mpr c84
                                          have c84b1 : (t492 != 0) = true := bne_iff_ne.mpr c84
                                          obtain rfl := Option.some.inj H
                                          go_wp2_with (first | (go_at_call 18; (with_reducible refine (draw_Back.calls k5 _ _ t463 t485 _ ?side1 ?side2 A80.out).mono ?_); (case side1 => repeat (first | exact (Kd.V_reads' HO_21.out).2.2 | (with_reducible refine Kd.C_alloc ?_ _) | (with_reducible refine Kd.C_drewN ?_ _) | (with_reducible refine Kd.C_drew ?_))); (case side2 => exact (Kd.V_reads' HO_21.out).2.1); rintro e w92 ⟨v486, rfl, ho0, hb⟩; have n0_ := Aside0.mk (Kd.V_below (by (with_reducible repeat (first | apply Kd.V_alloc | apply Kd.V_drewN | apply Kd.V_drew)); exact HO_14.out) hb); have n1_ := Aside0.mk (Kd.V_below (by (with_reducible repeat (first | apply Kd.V_alloc | apply Kd.V_drewN | apply Kd.V_drew)); exact HO_21.out) hb); have n2_ := Aside0.mk (Kd.V_below (by (with_reducible repeat (first | apply Kd.V_alloc | apply Kd.V_drewN | apply Kd.V_drew)); exact HO_24.out) hb); have n3_ := Aside0.mk (Kd.V_lower (Kd.V_mono (ok' := fun k_ => True) ho0 (fun k_ hk_ => trivial)) (below_size (by repeat (first | (with_reducible first | exact HB.out | apply below_alloc | apply pw_below_drewN | apply below_drew1) | exact HB.out)))); have n4_ := Aside0.mk (below_step (by repeat (first | (with_reducible first | exact HB.out | apply below_alloc | apply pw_below_drewN | apply below_drew1) | exact HB.out)) hb); clear HO_14; clear HO_21; clear HO_24; clear HB; have HO_14 := n0_; have HO_21 := n1_; have HO_24 := n2_; have HO487 := n3_; have HB := n4_; clear n0_ n1_ n2_ n3_ n4_; (try clear hb); (try clear hb2); (try clear hk); (try clear hi); (try clear ho0); obtain ⟨Ao93, co93, eo93⟩ := Kd.V_slice HO_24.out; subst eo93; obtain ⟨Ao94, co94, eo94⟩ := Kd.V_slice HO487.out; subst eo94) | (go_at_call 25; (with_reducible refine (ledger_Post.calls k5 0 _ _ t472 _ _ t485 t488 t489 t492 _ ?side1 ?side2 ?side3 ?side4 A81.out).mono ?_); (case side1 => repeat (first | exact (Kd.V_reads' HO_24.out).2.2 | (with_reducible refine Kd.C_alloc ?_ _) | (with_reducible refine Kd.C_drewN ?_ _) | (with_reducible refine Kd.C_drew ?_))); (case side2 => exact (Kd.V_reads' HO_24.out).2.1); (case side3 => repeat (first | exact (Kd.V_reads' HO487.out).2.2 | (with_reducible refine Kd.C_alloc ?_ _) | (with_reducible refine Kd.C_drewN ?_ _) | (with_reducible refine Kd.C_drew ?_))); (case side4 => exact (Kd.V_reads' HO487.out).2.1); rintro e w95 ⟨v490, rfl, ho0, hb⟩; have n0_ := Aside0.mk (Kd.V_below (by (with_reducible repeat (first | apply Kd.V_alloc | apply Kd.V_drewN | apply Kd.V_drew)); exact HO_14.out) hb); have n1_ := Aside0.mk (Kd.V_below (by (with_reducible repeat (first | apply Kd.V_alloc | apply Kd.V_drewN | apply Kd.V_drew)); exact HO_21.out) hb); have n2_ := Aside0.mk (Kd.V_below (by (with_reducible repeat (first | apply Kd.V_alloc | apply Kd.V_drewN | apply Kd.V_drew)); exact HO_24.out) hb); have n3_ := Aside0.mk (Kd.V_below (by (with_reducible repeat (first | apply Kd.V_alloc | apply Kd.V_drewN | apply Kd.V_drew)); exact HO487.out) hb); have n4_ := Aside0.mk (Kd.V_lower (Kd.V_mono (ok' := fun k_ => True) ho0 (fun k_ hk_ => trivial)) (below_size (by repeat (first | (with_reducible first | exact HB.out | apply below_alloc | apply pw_below_drewN | apply below_drew1) | exact HB.out)))); have n5_ := Aside0.mk (below_step (by repeat (first | (with_reducible first | exact HB.out | apply below_alloc | apply pw_below_drewN | apply below_drew1) | exact HB.out)) hb); clear HO_14; clear HO_21; clear HO_24; clear HO487; clear HB; have HO_14 := n0_; have HO_21 := n1_; have HO_24 := n2_; have HO487 := n3_; have HO491 := n4_; have HB := n5_; clear n0_ n1_ n2_ n3_ n4_ n5_; (try clear hb); (try clear hb2); (try clear hk); (try clear hi); (try clear ho0)) | (go_at_call 11; (with_reducible refine (prebendlaw11_awake.calls k5  true _ A82.out).mono ?_); rintro e w96 ⟨rfl, hb⟩; have n0_ := Aside0.mk (Kd.V_below (by (with_reducible repeat (first | apply Kd.V_alloc | apply Kd.V_drewN | apply Kd.V_drew)); exact HO_14.out) hb); have n1_ := Aside0.mk (Kd.V_below (by (with_reducible repeat (first | apply Kd.V_alloc | apply Kd.V_drewN | apply Kd.V_drew)); exact HO_21.out) hb); have n2_ := Aside0.mk (Kd.V_below (by (with_reducible repeat (first | apply Kd.V_alloc | apply Kd.V_drewN | apply Kd.V_drew)); exact HO_24.out) hb); have n3_ := Aside0.mk (Kd.V_below (by (with_reducible repeat (first | apply Kd.V_alloc | apply Kd.V_drewN | apply Kd.V_drew)); exact HO487.out) hb); have n4_ := Aside0.mk (Kd.V_below (by (with_reducible repeat (first | apply Kd.V_alloc | apply Kd.V_drewN | apply Kd.V_drew)); exact HO491.out) hb); have n5_ := Aside0.mk (below_step (by repeat (first | (with_reducible first | exact HB.out | apply below_alloc | apply pw_below_drewN | apply below_drew1) | exact HB.out)) hb); clear HO_14; clear HO_21; clear HO_24; clear HO487; clear HO491; clear HB; have HO_14 := n0_; have HO_21 := n1_; have HO_24 := n2_; have HO487 := n3_; have HO491 := n4_; have HB := n5_; clear n0_ n1_ n2_ n3_ n4_ n5_; (try clear hb); (try clear hb2); (try clear hk); (try clear hi)))
                                          repeat (go_quiet (first | (go_at_call 18; (with_reducible refine (draw_Back.calls k5 _ _ t463 t485 _ ?side1 ?side2 A80.out).mono ?_); (case side1 => repeat (first | exact (Kd.V_reads' HO_21.out).2.2 | (with_reducible refine Kd.C_alloc ?_ _) | (with_reducible refine Kd.C_drewN ?_ _) | (with_reducible refine Kd.C_drew ?_))); (case side2 => exact (Kd.V_reads' HO_21.out).2.1); rintro e w92 ⟨v486, rfl, ho0, hb⟩; have n0_ := Aside0.mk (Kd.V_below (by (with_reducible repeat (first | apply Kd.V_alloc | apply Kd.V_drewN | apply Kd.V_drew)); exact HO_14.out) hb); have n1_ := Aside0.mk (Kd.V_below (by (with_reducible repeat (first | apply Kd.V_alloc | apply Kd.V_drewN | apply Kd.V_drew)); exact HO_21.out) hb); have n2_ := Aside0.mk (Kd.V_below (by (with_reducible repeat (first | apply Kd.V_alloc | apply Kd.V_drewN | apply Kd.V_drew)); exact HO_24.out) hb); have n3_ := Aside0.mk (Kd.V_lower (Kd.V_mono (ok' := fun k_ => True) ho0 (fun k_ hk_ => trivial)) (below_size (by repeat (first | (with_reducible first | exact HB.out | apply below_alloc | apply pw_below_drewN | apply below_drew1) | exact HB.out)))); have n4_ := Aside0.mk (below_step (by repeat (first | (with_reducible first | exact HB.out | apply below_alloc | apply pw_below_drewN | apply below_drew1) | exact HB.out)) hb); clear HO_14; clear HO_21; clear HO_24; clear HB; have HO_14 := n0_; have HO_21 := n1_; have HO_24 := n2_; have HO487 := n3_; have HB := n4_; clear n0_ n1_ n2_ n3_ n4_; (try clear hb); (try clear hb2); (try clear hk); (try clear hi); (try clear ho0); obtain ⟨Ao93, co93, eo93⟩ := Kd.V_slice HO_24.out; subst eo93; obtain ⟨Ao94, co94, eo94⟩ := Kd.V_slice HO487.out; subst eo94) | (go_at_call 25; (with_reducible refine (ledger_Post.calls k5 0 _ _ t472 _ _ t485 t488 t489 t492 _ ?side1 ?side2 ?side3 ?side4 A81.out).mono ?_); (case side1 => repeat (first | exact (Kd.V_reads' HO_24.out).2.2 | (with_reducible refine Kd.C_alloc ?_ _) | (with_reducible refine Kd.C_drewN ?_ _) | (with_reducible refine Kd.C_drew ?_))); (case side2 => exact (Kd.V_reads' HO_24.out).2.1); (case side3 => repeat (first | exact (Kd.V_reads' HO487.out).2.2 | (with_reducible refine Kd.C_alloc ?_ _) | (with_reducible refine Kd.C_drewN ?_ _) | (with_reducible refine Kd.C_drew ?_))); (case side4 => exact (Kd.V_reads' HO487.out).2.1); rintro e w95 ⟨v490, rfl, ho0, hb⟩; have n0_ := Aside0.mk (Kd.V_below (by (with_reducible repeat (first | apply Kd.V_alloc | apply Kd.V_drewN | apply Kd.V_drew)); exact HO_14.out) hb); have n1_ := Aside0.mk (Kd.V_below (by (with_reducible repeat (first | apply Kd.V_alloc | apply Kd.V_drewN | apply Kd.V_drew)); exact HO_21.out) hb); have n2_ := Aside0.mk (Kd.V_below (by (with_reducible repeat (first | apply Kd.V_alloc | apply Kd.V_drewN | apply Kd.V_drew)); exact HO_24.out) hb); have n3_ := Aside0.mk (Kd.V_below (by (with_reducible repeat (first | apply Kd.V_alloc | apply Kd.V_drewN | apply Kd.V_drew)); exact HO487.out) hb); have n4_ := Aside0.mk (Kd.V_lower (Kd.V_mono (ok' := fun k_ => True) ho0 (fun k_ hk_ => trivial)) (below_size (by repeat (first | (with_reducible first | exact HB.out | apply below_alloc | apply pw_below_drewN | apply below_drew1) | exact HB.out)))); have n5_ := Aside0.mk (below_step (by repeat (first | (with_reducible first | exact HB.out | apply below_alloc | apply pw_below_drewN | apply below_drew1) | exact HB.out)) hb); clear HO_14; clear HO_21; clear HO_24; clear HO487; clear HB; have HO_14 := n0_; have HO_21 := n1_; have HO_24 := n2_; have HO487 := n3_; have HO491 := n4_; have HB := n5_; clear n0_ n1_ n2_ n3_ n4_ n5_; (try clear hb); (try clear hb2); (try clear hk); (try clear hi); (try clear ho0)) | (go_at_call 11; (with_reducible refine (prebendlaw11_awake.calls k5  true _ A82.out).mono ?_); rintro e w96 ⟨rfl, hb⟩; have n0_ := Aside0.mk (Kd.V_below (by (with_reducible repeat (first | apply Kd.V_alloc | apply Kd.V_drewN | apply Kd.V_drew)); exact HO_14.out) hb); have n1_ := Aside0.mk (Kd.V_below (by (with_reducible repeat (first | apply Kd.V_alloc | apply Kd.V_drewN | apply Kd.V_drew)); exact HO_21.out) hb); have n2_ := Aside0.mk (Kd.V_below (by (with_reducible repeat (first | apply Kd.V_alloc | apply Kd.V_drewN | apply Kd.V_drew)); exact HO_24.out) hb); have n3_ := Aside0.mk (Kd.V_below (by (with_reducible repeat (first | apply Kd.V_alloc | apply Kd.V_drewN | apply Kd.V_drew)); exact HO487.out) hb); have n4_ := Aside0.mk (Kd.V_below (by (with_reducible repeat (first | apply Kd.V_alloc | apply Kd.V_drewN | apply Kd.V_drew)); exact HO491.out) hb); have n5_ := Aside0.mk (below_step (by repeat (first | (with_reducible first | exact HB.out | apply below_alloc | apply pw_below_drewN | apply below_drew1) | exact HB.out)) hb); clear HO_14; clear HO_21; clear HO_24; clear HO487; clear HO491; clear HB; have HO_14 := n0_; have HO_21 := n1_; have HO_24 := n2_; have HO487 := n3_; have HO491 := n4_; have HB := n5_; clear n0_ n1_ n2_ n3_ n4_ n5_; (try clear hb); (try clear hb2); (try clear hk); (try clear hi))); try go_wp2_with (first | (go_at_call 18; (with_reducible refine (draw_Back.calls k5 _ _ t463 t485 _ ?side1 ?side2 A80.out).mono ?_); (case side1 => repeat (first | exact (Kd.V_reads' HO_21.out).2.2 | (with_reducible refine Kd.C_alloc ?_ _) | (with_reducible refine Kd.C_drewN ?_ _) | (with_reducible refine Kd.C_drew ?_))); (case side2 => exact (Kd.V_reads' HO_21.out).2.1); rintro e w92 ⟨v486, rfl, ho0, hb⟩; have n0_ := Aside0.mk (Kd.V_below (by (with_reducible repeat (first | apply Kd.V_alloc | apply Kd.V_drewN | apply Kd.V_drew)); exact HO_14.out) hb); have n1_ := Aside0.mk (Kd.V_below (by (with_reducible repeat (first | apply Kd.V_alloc | apply Kd.V_drewN | apply Kd.V_drew)); exact HO_21.out) hb); have n2_ := Aside0.mk (Kd.V_below (by (with_reducible repeat (first | apply Kd.V_alloc | apply Kd.V_drewN | apply Kd.V_drew)); exact HO_24.out) hb); have n3_ := Aside0.mk (Kd.V_lower (Kd.V_mono (ok' := fun k_ => True) ho0 (fun k_ hk_ => trivial)) (below_size (by repeat (first | (with_reducible first | exact HB.out | apply below_alloc | apply pw_below_drewN | apply below_drew1) | exact HB.out)))); have n4_ := Aside0.mk (below_step (by repeat (first | (with_reducible first | exact HB.out | apply below_alloc | apply pw_below_drewN | apply below_drew1) | exact HB.out)) hb); clear HO_14; clear HO_21; clear HO_24; clear HB; have HO_14 := n0_; have HO_21 := n1_; have HO_24 := n2_; have HO487 := n3_; have HB := n4_; clear n0_ n1_ n2_ n3_ n4_; (try clear hb); (try clear hb2); (try clear hk); (try clear hi); (try clear ho0); obtain ⟨Ao93, co93, eo93⟩ := Kd.V_slice HO_24.out; subst eo93; obtain ⟨Ao94, co94, eo94⟩ := Kd.V_slice HO487.out; subst eo94) | (go_at_call 25; (with_reducible refine (ledger_Post.calls k5 0 _ _ t472 _ _ t485 t488 t489 t492 _ ?side1 ?side2 ?side3 ?side4 A81.out).mono ?_); (case side1 => repeat (first | exact (Kd.V_reads' HO_24.out).2.2 | (with_reducible refine Kd.C_alloc ?_ _) | (with_reducible refine Kd.C_drewN ?_ _) | (with_reducible refine Kd.C_drew ?_))); (case side2 => exact (Kd.V_reads' HO_24.out).2.1); (case side3 => repeat (first | exact (Kd.V_reads' HO487.out).2.2 | (with_reducible refine Kd.C_alloc ?_ _) | (with_reducible refine Kd.C_drewN ?_ _) | (with_reducible refine Kd.C_drew ?_))); (case side4 => exact (Kd.V_reads' HO487.out).2.1); rintro e w95 ⟨v490, rfl, ho0, hb⟩; have n0_ := Aside0.mk (Kd.V_below (by (with_reducible repeat (first | apply Kd.V_alloc | apply Kd.V_drewN | apply Kd.V_drew)); exact HO_14.out) hb); have n1_ := Aside0.mk (Kd.V_below (by (with_reducible repeat (first | apply Kd.V_alloc | apply Kd.V_drewN | apply Kd.V_drew)); exact HO_21.out) hb); have n2_ := Aside0.mk (Kd.V_below (by (with_reducible repeat (first | apply Kd.V_alloc | apply Kd.V_drewN | apply Kd.V_drew)); exact HO_24.out) hb); have n3_ := Aside0.mk (Kd.V_below (by (with_reducible repeat (first | apply Kd.V_alloc | apply Kd.V_drewN | apply Kd.V_drew)); exact HO487.out) hb); have n4_ := Aside0.mk (Kd.V_lower (Kd.V_mono (ok' := fun k_ => True) ho0 (fun k_ hk_ => trivial)) (below_size (by repeat (first | (with_reducible first | exact HB.out | apply below_alloc | apply pw_below_drewN | apply below_drew1) | exact HB.out)))); have n5_ := Aside0.mk (below_step (by repeat (first | (with_reducible first | exact HB.out | apply below_alloc | apply pw_below_drewN | apply below_drew1) | exact HB.out)) hb); clear HO_14; clear HO_21; clear HO_24; clear HO487; clear HB; have HO_14 := n0_; have HO_21 := n1_; have HO_24 := n2_; have HO487 := n3_; have HO491 := n4_; have HB := n5_; clear n0_ n1_ n2_ n3_ n4_ n5_; (try clear hb); (try clear hb2); (try clear hk); (try clear hi); (try clear ho0)) | (go_at_call 11; (with_reducible refine (prebendlaw11_awake.calls k5  true _ A82.out).mono ?_); rintro e w96 ⟨rfl, hb⟩; have n0_ := Aside0.mk (Kd.V_below (by (with_reducible repeat (first | apply Kd.V_alloc | apply Kd.V_drewN | apply Kd.V_drew)); exact HO_14.out) hb); have n1_ := Aside0.mk (Kd.V_below (by (with_reducible repeat (first | apply Kd.V_alloc | apply Kd.V_drewN | apply Kd.V_drew)); exact HO_21.out) hb); have n2_ := Aside0.mk (Kd.V_below (by (with_reducible repeat (first | apply Kd.V_alloc | apply Kd.V_drewN | apply Kd.V_drew)); exact HO_24.out) hb); have n3_ := Aside0.mk (Kd.V_below (by (with_reducible repeat (first | apply Kd.V_alloc | apply Kd.V_drewN | apply Kd.V_drew)); exact HO487.out) hb); have n4_ := Aside0.mk (Kd.V_below (by (with_reducible repeat (first | apply Kd.V_alloc | apply Kd.V_drewN | apply Kd.V_drew)); exact HO491.out) hb); have n5_ := Aside0.mk (below_step (by repeat (first | (with_reducible first | exact HB.out | apply below_alloc | apply pw_below_drewN | apply below_drew1) | exact HB.out)) hb); clear HO_14; clear HO_21; clear HO_24; clear HO487; clear HO491; clear HB; have HO_14 := n0_; have HO_21 := n1_; have HO_24 := n2_; have HO487 := n3_; have HO491 := n4_; have HB := n5_; clear n0_ n1_ n2_ n3_ n4_ n5_; (try clear hb); (try clear hb2); (try clear hk); (try clear hi))))
                                          go_ret
                                          exact ⟨by first | rfl | (simp [errW_none, errW_some] <;> rfl) | (simp [*, errW_none, errW_some] <;> rfl), by repeat (first | (with_reducible first | exact HB.out | apply below_alloc | apply pw_below_drewN | apply below_drew1) | exact HB.out)⟩
                                      · replace c83 := Bool.eq_false_iff.mpr c83
                                        subst c83
                                        have H1 : (some false) = some r := by rw [if_neg (show ¬ (false = true) by decide)] at H; exact H
                                        clear H
                                        have H := H1
                                        clear H1
                                        obtain rfl := Option.some.inj H
                                        go_wp2_with (first | (go_at_call 18; (with_reducible refine (draw_Back.calls k5 _ _ t463 t485 _ ?side1 ?side2 A80.out).mono ?_); (case side1 => repeat (first | exact (Kd.V_reads' HO_21.out).2.2 | (with_reducible refine Kd.C_alloc ?_ _) | (with_reducible refine Kd.C_drewN ?_ _) | (with_reducible refine Kd.C_drew ?_))); (case side2 => exact (Kd.V_reads' HO_21.out).2.1); rintro e w97 ⟨v486, rfl, ho0, hb⟩; have n0_ := Aside0.mk (Kd.V_below (by (with_reducible repeat (first | apply Kd.V_alloc | apply Kd.V_drewN | apply Kd.V_drew)); exact HO_14.out) hb); have n1_ := Aside0.mk (Kd.V_below (by (with_reducible repeat (first | apply Kd.V_alloc | apply Kd.V_drewN | apply Kd.V_drew)); exact HO_21.out) hb); have n2_ := Aside0.mk (Kd.V_below (by (with_reducible repeat (first | apply Kd.V_alloc | apply Kd.V_drewN | apply Kd.V_drew)); exact HO_24.out) hb); have n3_ := Aside0.mk (Kd.V_lower (Kd.V_mono (ok' := fun k_ => True) ho0 (fun k_ hk_ => trivial)) (below_size (by repeat (first | (with_reducible first | exact HB.out | apply below_alloc | apply pw_below_drewN | apply below_drew1) | exact HB.out)))); have n4_ := Aside0.mk (below_step (by repeat (first | (with_reducible first | exact HB.out | apply below_alloc | apply pw_below_drewN | apply below_drew1) | exact HB.out)) hb); clear HO_14; clear HO_21; clear HO_24; clear HB; have HO_14 := n0_; have HO_21 := n1_; have HO_24 := n2_; have HO487 := n3_; have HB := n4_; clear n0_ n1_ n2_ n3_ n4_; (try clear hb); (try clear hb2); (try clear hk); (try clear hi); (try clear ho0); obtain ⟨Ao98, co98, eo98⟩ := Kd.V_slice HO_24.out; subst eo98; obtain ⟨Ao99, co99, eo99⟩ := Kd.V_slice HO487.out; subst eo99) | (go_at_call 25; (with_reducible refine (ledger_Post.calls k5 0 _ _ t472 _ _ t485 t488 t489 t492 _ ?side1 ?side2 ?side3 ?side4 A81.out).mono ?_); (case side1 => repeat (first | exact (Kd.V_reads' HO_24.out).2.2 | (with_reducible refine Kd.C_alloc ?_ _) | (with_reducible refine Kd.C_drewN ?_ _) | (with_reducible refine Kd.C_drew ?_))); (case side2 => exact (Kd.V_reads' HO_24.out).2.1); (case side3 => repeat (first | exact (Kd.V_reads' HO487.out).2.2 | (with_reducible refine Kd.C_alloc ?_ _) | (with_reducible refine Kd.C_drewN ?_ _) | (with_reducible refine Kd.C_drew ?_))); (case side4 => exact (Kd.V_reads' HO487.out).2.1); rintro e w100 ⟨v490, rfl, ho0, hb⟩; have n0_ := Aside0.mk (Kd.V_below (by (with_reducible repeat (first | apply Kd.V_alloc | apply Kd.V_drewN | apply Kd.V_drew)); exact HO_14.out) hb); have n1_ := Aside0.mk (Kd.V_below (by (with_reducible repeat (first | apply Kd.V_alloc | apply Kd.V_drewN | apply Kd.V_drew)); exact HO_21.out) hb); have n2_ := Aside0.mk (Kd.V_below (by (with_reducible repeat (first | apply Kd.V_alloc | apply Kd.V_drewN | apply Kd.V_drew)); exact HO_24.out) hb); have n3_ := Aside0.mk (Kd.V_below (by (with_reducible repeat (first | apply Kd.V_alloc | apply Kd.V_drewN | apply Kd.V_drew)); exact HO487.out) hb); have n4_ := Aside0.mk (Kd.V_lower (Kd.V_mono (ok' := fun k_ => True) ho0 (fun k_ hk_ => trivial)) (below_size (by repeat (first | (with_reducible first | exact HB.out | apply below_alloc | apply pw_below_drewN | apply below_drew1) | exact HB.out)))); have n5_ := Aside0.mk (below_step (by repeat (first | (with_reducible first | exact HB.out | apply below_alloc | apply pw_below_drewN | apply below_drew1) | exact HB.out)) hb); clear HO_14; clear HO_21; clear HO_24; clear HO487; clear HB; have HO_14 := n0_; have HO_21 := n1_; have HO_24 := n2_; have HO487 := n3_; have HO491 := n4_; have HB := n5_; clear n0_ n1_ n2_ n3_ n4_ n5_; (try clear hb); (try clear hb2); (try clear hk); (try clear hi); (try clear ho0)) | (go_at_call 11; (with_reducible refine (prebendlaw11_awake.calls k5  false _ A82.out).mono ?_); rintro e w101 ⟨rfl, hb⟩; have n0_ := Aside0.mk (Kd.V_below (by (with_reducible repeat (first | apply Kd.V_alloc | apply Kd.V_drewN | apply Kd.V_drew)); exact HO_14.out) hb); have n1_ := Aside0.mk (Kd.V_below (by (with_reducible repeat (first | apply Kd.V_alloc | apply Kd.V_drewN | apply Kd.V_drew)); exact HO_21.out) hb); have n2_ := Aside0.mk (Kd.V_below (by (with_reducible repeat (first | apply Kd.V_alloc | apply Kd.V_drewN | apply Kd.V_drew)); exact HO_24.out) hb); have n3_ := Aside0.mk (Kd.V_below (by (with_reducible repeat (first | apply Kd.V_alloc | apply Kd.V_drewN | apply Kd.V_drew)); exact HO487.out) hb); have n4_ := Aside0.mk (Kd.V_below (by (with_reducible repeat (first | apply Kd.V_alloc | apply Kd.V_drewN | apply Kd.V_drew)); exact HO491.out) hb); have n5_ := Aside0.mk (below_step (by repeat (first | (with_reducible first | exact HB.out | apply below_alloc | apply pw_below_drewN | apply below_drew1) | exact HB.out)) hb); clear HO_14; clear HO_21; clear HO_24; clear HO487; clear HO491; clear HB; have HO_14 := n0_; have HO_21 := n1_; have HO_24 := n2_; have HO487 := n3_; have HO491 := n4_; have HB := n5_; clear n0_ n1_ n2_ n3_ n4_ n5_; (try clear hb); (try clear hb2); (try clear hk); (try clear hi)))
                                        repeat (go_quiet (first | (go_at_call 18; (with_reducible refine (draw_Back.calls k5 _ _ t463 t485 _ ?side1 ?side2 A80.out).mono ?_); (case side1 => repeat (first | exact (Kd.V_reads' HO_21.out).2.2 | (with_reducible refine Kd.C_alloc ?_ _) | (with_reducible refine Kd.C_drewN ?_ _) | (with_reducible refine Kd.C_drew ?_))); (case side2 => exact (Kd.V_reads' HO_21.out).2.1); rintro e w97 ⟨v486, rfl, ho0, hb⟩; have n0_ := Aside0.mk (Kd.V_below (by (with_reducible repeat (first | apply Kd.V_alloc | apply Kd.V_drewN | apply Kd.V_drew)); exact HO_14.out) hb); have n1_ := Aside0.mk (Kd.V_below (by (with_reducible repeat (first | apply Kd.V_alloc | apply Kd.V_drewN | apply Kd.V_drew)); exact HO_21.out) hb); have n2_ := Aside0.mk (Kd.V_below (by (with_reducible repeat (first | apply Kd.V_alloc | apply Kd.V_drewN | apply Kd.V_drew)); exact HO_24.out) hb); have n3_ := Aside0.mk (Kd.V_lower (Kd.V_mono (ok' := fun k_ => True) ho0 (fun k_ hk_ => trivial)) (below_size (by repeat (first | (with_reducible first | exact HB.out | apply below_alloc | apply pw_below_drewN | apply below_drew1) | exact HB.out)))); have n4_ := Aside0.mk (below_step (by repeat (first | (with_reducible first | exact HB.out | apply below_alloc | apply pw_below_drewN | apply below_drew1) | exact HB.out)) hb); clear HO_14; clear HO_21; clear HO_24; clear HB; have HO_14 := n0_; have HO_21 := n1_; have HO_24 := n2_; have HO487 := n3_; have HB := n4_; clear n0_ n1_ n2_ n3_ n4_; (try clear hb); (try clear hb2); (try clear hk); (try clear hi); (try clear ho0); obtain ⟨Ao98, co98, eo98⟩ := Kd.V_slice HO_24.out; subst eo98; obtain ⟨Ao99, co99, eo99⟩ := Kd.V_slice HO487.out; subst eo99) | (go_at_call 25; (with_reducible refine (ledger_Post.calls k5 0 _ _ t472 _ _ t485 t488 t489 t492 _ ?side1 ?side2 ?side3 ?side4 A81.out).mono ?_); (case side1 => repeat (first | exact (Kd.V_reads' HO_24.out).2.2 | (with_reducible refine Kd.C_alloc ?_ _) | (with_reducible refine Kd.C_drewN ?_ _) | (with_reducible refine Kd.C_drew ?_))); (case side2 => exact (Kd.V_reads' HO_24.out).2.1); (case side3 => repeat (first | exact (Kd.V_reads' HO487.out).2.2 | (with_reducible refine Kd.C_alloc ?_ _) | (with_reducible refine Kd.C_drewN ?_ _) | (with_reducible refine Kd.C_drew ?_))); (case side4 => exact (Kd.V_reads' HO487.out).2.1); rintro e w100 ⟨v490, rfl, ho0, hb⟩; have n0_ := Aside0.mk (Kd.V_below (by (with_reducible repeat (first | apply Kd.V_alloc | apply Kd.V_drewN | apply Kd.V_drew)); exact HO_14.out) hb); have n1_ := Aside0.mk (Kd.V_below (by (with_reducible repeat (first | apply Kd.V_alloc | apply Kd.V_drewN | apply Kd.V_drew)); exact HO_21.out) hb); have n2_ := Aside0.mk (Kd.V_below (by (with_reducible repeat (first | apply Kd.V_alloc | apply Kd.V_drewN | apply Kd.V_drew)); exact HO_24.out) hb); have n3_ := Aside0.mk (Kd.V_below (by (with_reducible repeat (first | apply Kd.V_alloc | apply Kd.V_drewN | apply Kd.V_drew)); exact HO487.out) hb); have n4_ := Aside0.mk (Kd.V_lower (Kd.V_mono (ok' := fun k_ => True) ho0 (fun k_ hk_ => trivial)) (below_size (by repeat (first | (with_reducible first | exact HB.out | apply below_alloc | apply pw_below_drewN | apply below_drew1) | exact HB.out)))); have n5_ := Aside0.mk (below_step (by repeat (first | (with_reducible first | exact HB.out | apply below_alloc | apply pw_below_drewN | apply below_drew1) | exact HB.out)) hb); clear HO_14; clear HO_21; clear HO_24; clear HO487; clear HB; have HO_14 := n0_; have HO_21 := n1_; have HO_24 := n2_; have HO487 := n3_; have HO491 := n4_; have HB := n5_; clear n0_ n1_ n2_ n3_ n4_ n5_; (try clear hb); (try clear hb2); (try clear hk); (try clear hi); (try clear ho0)) | (go_at_call 11; (with_reducible refine (prebendlaw11_awake.calls k5  false _ A82.out).mono ?_); rintro e w101 ⟨rfl, hb⟩; have n0_ := Aside0.mk (Kd.V_below (by (with_reducible repeat (first | apply Kd.V_alloc | apply Kd.V_drewN | apply Kd.V_drew)); exact HO_14.out) hb); have n1_ := Aside0.mk (Kd.V_below (by (with_reducible repeat (first | apply Kd.V_alloc | apply Kd.V_drewN | apply Kd.V_drew)); exact HO_21.out) hb); have n2_ := Aside0.mk (Kd.V_below (by (with_reducible repeat (first | apply Kd.V_alloc | apply Kd.V_drewN | apply Kd.V_drew)); exact HO_24.out) hb); have n3_ := Aside0.mk (Kd.V_below (by (with_reducible repeat (first | apply Kd.V_alloc | apply Kd.V_drewN | apply Kd.V_drew)); exact HO487.out) hb); have n4_ := Aside0.mk (Kd.V_below (by (with_reducible repeat (first | apply Kd.V_alloc | apply Kd.V_drewN | apply Kd.V_drew)); exact HO491.out) hb); have n5_ := Aside0.mk (below_step (by repeat (first | (with_reducible first | exact HB.out | apply below_alloc | apply pw_below_drewN | apply below_drew1) | exact HB.out)) hb); clear HO_14; clear HO_21; clear HO_24; clear HO487; clear HO491; clear HB; have HO_14 := n0_; have HO_21 := n1_; have HO_24 := n2_; have HO487 := n3_; have HO491 := n4_; have HB := n5_; clear n0_ n1_ n2_ n3_ n4_ n5_; (try clear hb); (try clear hb2); (try clear hk); (try clear hi))); try go_wp2_with (first | (go_at_call 18; (with_reducible refine (draw_Back.calls k5 _ _ t463 t485 _ ?side1 ?side2 A80.out).mono ?_); (case side1 => repeat (first | exact (Kd.V_reads' HO_21.out).2.2 | (with_reducible refine Kd.C_alloc ?_ _) | (with_reducible refine Kd.C_drewN ?_ _) | (with_reducible refine Kd.C_drew ?_))); (case side2 => exact (Kd.V_reads' HO_21.out).2.1); rintro e w97 ⟨v486, rfl, ho0, hb⟩; have n0_ := Aside0.mk (Kd.V_below (by (with_reducible repeat (first | apply Kd.V_alloc | apply Kd.V_drewN | apply Kd.V_drew)); exact HO_14.out) hb); have n1_ := Aside0.mk (Kd.V_below (by (with_reducible repeat (first | apply Kd.V_alloc | apply Kd.V_drewN | apply Kd.V_drew)); exact HO_21.out) hb); have n2_ := Aside0.mk (Kd.V_below (by (with_reducible repeat (first | apply Kd.V_alloc | apply Kd.V_drewN | apply Kd.V_drew)); exact HO_24.out) hb); have n3_ := Aside0.mk (Kd.V_lower (Kd.V_mono (ok' := fun k_ => True) ho0 (fun k_ hk_ => trivial)) (below_size (by repeat (first | (with_reducible first | exact HB.out | apply below_alloc | apply pw_below_drewN | apply below_drew1) | exact HB.out)))); have n4_ := Aside0.mk (below_step (by repeat (first | (with_reducible first | exact HB.out | apply below_alloc | apply pw_below_drewN | apply below_drew1) | exact HB.out)) hb); clear HO_14; clear HO_21; clear HO_24; clear HB; have HO_14 := n0_; have HO_21 := n1_; have HO_24 := n2_; have HO487 := n3_; have HB := n4_; clear n0_ n1_ n2_ n3_ n4_; (try clear hb); (try clear hb2); (try clear hk); (try clear hi); (try clear ho0); obtain ⟨Ao98, co98, eo98⟩ := Kd.V_slice HO_24.out; subst eo98; obtain ⟨Ao99, co99, eo99⟩ := Kd.V_slice HO487.out; subst eo99) | (go_at_call 25; (with_reducible refine (ledger_Post.calls k5 0 _ _ t472 _ _ t485 t488 t489 t492 _ ?side1 ?side2 ?side3 ?side4 A81.out).mono ?_); (case side1 => repeat (first | exact (Kd.V_reads' HO_24.out).2.2 | (with_reducible refine Kd.C_alloc ?_ _) | (with_reducible refine Kd.C_drewN ?_ _) | (with_reducible refine Kd.C_drew ?_))); (case side2 => exact (Kd.V_reads' HO_24.out).2.1); (case side3 => repeat (first | exact (Kd.V_reads' HO487.out).2.2 | (with_reducible refine Kd.C_alloc ?_ _) | (with_reducible refine Kd.C_drewN ?_ _) | (with_reducible refine Kd.C_drew ?_))); (case side4 => exact (Kd.V_reads' HO487.out).2.1); rintro e w100 ⟨v490, rfl, ho0, hb⟩; have n0_ := Aside0.mk (Kd.V_below (by (with_reducible repeat (first | apply Kd.V_alloc | apply Kd.V_drewN | apply Kd.V_drew)); exact HO_14.out) hb); have n1_ := Aside0.mk (Kd.V_below (by (with_reducible repeat (first | apply Kd.V_alloc | apply Kd.V_drewN | apply Kd.V_drew)); exact HO_21.out) hb); have n2_ := Aside0.mk (Kd.V_below (by (with_reducible repeat (first | apply Kd.V_alloc | apply Kd.V_drewN | apply Kd.V_drew)); exact HO_24.out) hb); have n3_ := Aside0.mk (Kd.V_below (by (with_reducible repeat (first | apply Kd.V_alloc | apply Kd.V_drewN | apply Kd.V_drew)); exact HO487.out) hb); have n4_ := Aside0.mk (Kd.V_lower (Kd.V_mono (ok' := fun k_ => True) ho0 (fun k_ hk_ => trivial)) (below_size (by repeat (first | (with_reducible first | exact HB.out | apply below_alloc | apply pw_below_drewN | apply below_drew1) | exact HB.out)))); have n5_ := Aside0.mk (below_step (by repeat (first | (with_reducible first | exact HB.out | apply below_alloc | apply pw_below_drewN | apply below_drew1) | exact HB.out)) hb); clear HO_14; clear HO_21; clear HO_24; clear HO487; clear HB; have HO_14 := n0_; have HO_21 := n1_; have HO_24 := n2_; have HO487 := n3_; have HO491 := n4_; have HB := n5_; clear n0_ n1_ n2_ n3_ n4_ n5_; (try clear hb); (try clear hb2); (try clear hk); (try clear hi); (try clear ho0)) | (go_at_call 11; (with_reducible refine (prebendlaw11_awake.calls k5  false _ A82.out).mono ?_); rintro e w101 ⟨rfl, hb⟩; have n0_ := Aside0.mk (Kd.V_below (by (with_reducible repeat (first | apply Kd.V_alloc | apply Kd.V_drewN | apply Kd.V_drew)); exact HO_14.out) hb); have n1_ := Aside0.mk (Kd.V_below (by (with_reducible repeat (first | apply Kd.V_alloc | apply Kd.V_drewN | apply Kd.V_drew)); exact HO_21.out) hb); have n2_ := Aside0.mk (Kd.V_below (by (with_reducible repeat (first | apply Kd.V_alloc | apply Kd.V_drewN | apply Kd.V_drew)); exact HO_24.out) hb); have n3_ := Aside0.mk (Kd.V_below (by (with_reducible repeat (first | apply Kd.V_alloc | apply Kd.V_drewN | apply Kd.V_drew)); exact HO487.out) hb); have n4_ := Aside0.mk (Kd.V_below (by (with_reducible repeat (first | apply Kd.V_alloc | apply Kd.V_drewN | apply Kd.V_drew)); exact HO491.out) hb); have n5_ := Aside0.mk (below_step (by repeat (first | (with_reducible first | exact HB.out | apply below_alloc | apply pw_below_drewN | apply below_drew1) | exact HB.out)) hb); clear HO_14; clear HO_21; clear HO_24; clear HO487; clear HO491; clear HB; have HO_14 := n0_; have HO_21 := n1_; have HO_24 := n2_; have HO487 := n3_; have HO491 := n4_; have HB := n5_; clear n0_ n1_ n2_ n3_ n4_ n5_; (try clear hb); (try clear hb2); (try clear hk); (try clear hi))))
                                        go_ret
                                        exact ⟨by first | rfl | (simp [errW_none, errW_some] <;> rfl) | (simp [*, errW_none, errW_some] <;> rfl), by repeat (first | (with_reducible first | exact HB.out | apply below_alloc | apply pw_below_drewN | apply below_drew1) | exact HB.out)⟩
                                  · rw [if_neg c76] at H
                                    have c76b0 : ((wrap64 (x27_5 - x26_5)) == a5) = false := beq_eq_false_iff_ne.mpr c76
                                    have c76b1 : ((wrap64 (x27_5 - x26_5)) != a5) = true := bne_iff_ne.mpr c76
                                    obtain rfl := Option.some.inj H
                                    go_wp2
                                    repeat (go_quiet (fail); try go_wp2)
                                    go_ret
                                    exact ⟨by first | rfl | (simp [errW_none, errW_some] <;> rfl) | (simp [*, errW_none, errW_some] <;> rfl), by repeat (first | (with_reducible first | exact HB.out | apply below_alloc | apply pw_below_drewN | apply below_drew1) | exact HB.out)⟩
                    · rw [if_neg c55] at H
                      have c55b0 : (t466 == 0) = false := beq_eq_false_iff_ne.mpr c55
                      have c55b1 : (t466 != 0) = true := bne_iff_ne.mpr c55
                      replace H := Option.bind_eq_some_iff.mp H
                      obtain ⟨t467, A1020, H⟩ := H
                      replace H : (if t467 = true then (if a5 < 0 then (some true) else (some (decide (a5 > a3)))) else (some false)) = some r := H
                      have A102 := Aside0.mk A1020
                      clear A1020
                      by_cases c103 : t467 = true
                      · subst c103
                        have H1 : (if a5 < 0 then (some true) else (some (decide (a5 > a3)))) = some r := by rw [if_pos rfl] at H; exact H
                        clear H
                        have H := H1
                        clear H1
                        by_cases c104 : a5 < 0
                        · rw [if_pos c104] at H
                          have c104b0 : decide (a5 < 0) = true := decide_eq_true c104
                          clear c104
                          obtain rfl := Option.some.inj H
                          go_wp2_with (first | (go_at_call 21; (with_reducible refine (draw_Charge.calls kj46 _ _ t450 a5 t463 t466 _ ?side1 ?side2 A54.out).mono ?_); (case side1 => repeat (first | exact (Kd.V_reads' HO_16.out).2.2 | (with_reducible refine Kd.C_alloc ?_ _) | (with_reducible refine Kd.C_drewN ?_ _) | (with_reducible refine Kd.C_drew ?_))); (case side2 => exact (Kd.V_reads' HO_16.out).2.1); rintro e w105 ⟨v464, rfl, ho0, hb⟩; have n0_ := Aside0.mk (Kd.V_below (by (with_reducible repeat (first | apply Kd.V_alloc | apply Kd.V_drewN | apply Kd.V_drew)); exact HO_14.out) hb); have n1_ := Aside0.mk (Kd.V_below (by (with_reducible repeat (first | apply Kd.V_alloc | apply Kd.V_drewN | apply Kd.V_drew)); exact HO_16.out) hb); have n2_ := Aside0.mk (Kd.V_below (by (with_reducible repeat (first | apply Kd.V_alloc | apply Kd.V_drewN | apply Kd.V_drew)); exact HO_19.out) hb); have n3_ := Aside0.mk (Kd.V_lower (Kd.V_mono (ok' := fun k_ => True) ho0 (fun k_ hk_ => trivial)) (below_size (by repeat (first | (with_reducible first | exact HB.out | apply below_alloc | apply pw_below_drewN | apply below_drew1) | exact HB.out)))); have n4_ := Aside0.mk (below_step (by repeat (first | (with_reducible first | exact HB.out | apply below_alloc | apply pw_below_drewN | apply below_drew1) | exact HB.out)) hb); clear HO_14; clear HO_16; clear HO_19; clear HB; have HO_14 := n0_; have HO_16 := n1_; have HO_19 := n2_; have HO465 := n3_; have HB := n4_; clear n0_ n1_ n2_ n3_ n4_; (try clear hb); (try clear hb2); (try clear hk); (try clear hi); (try clear ho0)) | (go_at_call 11; (with_reducible refine (prebendlaw11_awake.calls kj46  true _ A102.out).mono ?_); rintro e w106 ⟨rfl, hb⟩; have n0_ := Aside0.mk (Kd.V_below (by (with_reducible repeat (first | apply Kd.V_alloc | apply Kd.V_drewN | apply Kd.V_drew)); exact HO_14.out) hb); have n1_ := Aside0.mk (Kd.V_below (by (with_reducible repeat (first | apply Kd.V_alloc | apply Kd.V_drewN | apply Kd.V_drew)); exact HO_16.out) hb); have n2_ := Aside0.mk (Kd.V_below (by (with_reducible repeat (first | apply Kd.V_alloc | apply Kd.V_drewN | apply Kd.V_drew)); exact HO_19.out) hb); have n3_ := Aside0.mk (Kd.V_below (by (with_reducible repeat (first | apply Kd.V_alloc | apply Kd.V_drewN | apply Kd.V_drew)); exact HO465.out) hb); have n4_ := Aside0.mk (below_step (by repeat (first | (with_reducible first | exact HB.out | apply below_alloc | apply pw_below_drewN | apply below_drew1) | exact HB.out)) hb); clear HO_14; clear HO_16; clear HO_19; clear HO465; clear HB; have HO_14 := n0_; have HO_16 := n1_; have HO_19 := n2_; have HO465 := n3_; have HB := n4_; clear n0_ n1_ n2_ n3_ n4_; (try clear hb); (try clear hb2); (try clear hk); (try clear hi)))
                          repeat (go_quiet (first | (go_at_call 21; (with_reducible refine (draw_Charge.calls kj46 _ _ t450 a5 t463 t466 _ ?side1 ?side2 A54.out).mono ?_); (case side1 => repeat (first | exact (Kd.V_reads' HO_16.out).2.2 | (with_reducible refine Kd.C_alloc ?_ _) | (with_reducible refine Kd.C_drewN ?_ _) | (with_reducible refine Kd.C_drew ?_))); (case side2 => exact (Kd.V_reads' HO_16.out).2.1); rintro e w105 ⟨v464, rfl, ho0, hb⟩; have n0_ := Aside0.mk (Kd.V_below (by (with_reducible repeat (first | apply Kd.V_alloc | apply Kd.V_drewN | apply Kd.V_drew)); exact HO_14.out) hb); have n1_ := Aside0.mk (Kd.V_below (by (with_reducible repeat (first | apply Kd.V_alloc | apply Kd.V_drewN | apply Kd.V_drew)); exact HO_16.out) hb); have n2_ := Aside0.mk (Kd.V_below (by (with_reducible repeat (first | apply Kd.V_alloc | apply Kd.V_drewN | apply Kd.V_drew)); exact HO_19.out) hb); have n3_ := Aside0.mk (Kd.V_lower (Kd.V_mono (ok' := fun k_ => True) ho0 (fun k_ hk_ => trivial)) (below_size (by repeat (first | (with_reducible first | exact HB.out | apply below_alloc | apply pw_below_drewN | apply below_drew1) | exact HB.out)))); have n4_ := Aside0.mk (below_step (by repeat (first | (with_reducible first | exact HB.out | apply below_alloc | apply pw_below_drewN | apply below_drew1) | exact HB.out)) hb); clear HO_14; clear HO_16; clear HO_19; clear HB; have HO_14 := n0_; have HO_16 := n1_; have HO_19 := n2_; have HO465 := n3_; have HB := n4_; clear n0_ n1_ n2_ n3_ n4_; (try clear hb); (try clear hb2); (try clear hk); (try clear hi); (try clear ho0)) | (go_at_call 11; (with_reducible refine (prebendlaw11_awake.calls kj46  true _ A102.out).mono ?_); rintro e w106 ⟨rfl, hb⟩; have n0_ := Aside0.mk (Kd.V_below (by (with_reducible repeat (first | apply Kd.V_alloc | apply Kd.V_drewN | apply Kd.V_drew)); exact HO_14.out) hb); have n1_ := Aside0.mk (Kd.V_below (by (with_reducible repeat (first | apply Kd.V_alloc | apply Kd.V_drewN | apply Kd.V_drew)); exact HO_16.out) hb); have n2_ := Aside0.mk (Kd.V_below (by (with_reducible repeat (first | apply Kd.V_alloc | apply Kd.V_drewN | apply Kd.V_drew)); exact HO_19.out) hb); have n3_ := Aside0.mk (Kd.V_below (by (with_reducible repeat (first | apply Kd.V_alloc | apply Kd.V_drewN | apply Kd.V_drew)); exact HO465.out) hb); have n4_ := Aside0.mk (below_step (by repeat (first | (with_reducible first | exact HB.out | apply below_alloc | apply pw_below_drewN | apply below_drew1) | exact HB.out)) hb); clear HO_14; clear HO_16; clear HO_19; clear HO465; clear HB; have HO_14 := n0_; have HO_16 := n1_; have HO_19 := n2_; have HO465 := n3_; have HB := n4_; clear n0_ n1_ n2_ n3_ n4_; (try clear hb); (try clear hb2); (try clear hk); (try clear hi))); try go_wp2_with (first | (go_at_call 21; (with_reducible refine (draw_Charge.calls kj46 _ _ t450 a5 t463 t466 _ ?side1 ?side2 A54.out).mono ?_); (case side1 => repeat (first | exact (Kd.V_reads' HO_16.out).2.2 | (with_reducible refine Kd.C_alloc ?_ _) | (with_reducible refine Kd.C_drewN ?_ _) | (with_reducible refine Kd.C_drew ?_))); (case side2 => exact (Kd.V_reads' HO_16.out).2.1); rintro e w105 ⟨v464, rfl, ho0, hb⟩; have n0_ := Aside0.mk (Kd.V_below (by (with_reducible repeat (first | apply Kd.V_alloc | apply Kd.V_drewN | apply Kd.V_drew)); exact HO_14.out) hb); have n1_ := Aside0.mk (Kd.V_below (by (with_reducible repeat (first | apply Kd.V_alloc | apply Kd.V_drewN | apply Kd.V_drew)); exact HO_16.out) hb); have n2_ := Aside0.mk (Kd.V_below (by (with_reducible repeat (first | apply Kd.V_alloc | apply Kd.V_drewN | apply Kd.V_drew)); exact HO_19.out) hb); have n3_ := Aside0.mk (Kd.V_lower (Kd.V_mono (ok' := fun k_ => True) ho0 (fun k_ hk_ => trivial)) (below_size (by repeat (first | (with_reducible first | exact HB.out | apply below_alloc | apply pw_below_drewN | apply below_drew1) | exact HB.out)))); have n4_ := Aside0.mk (below_step (by repeat (first | (with_reducible first | exact HB.out | apply below_alloc | apply pw_below_drewN | apply below_drew1) | exact HB.out)) hb); clear HO_14; clear HO_16; clear HO_19; clear HB; have HO_14 := n0_; have HO_16 := n1_; have HO_19 := n2_; have HO465 := n3_; have HB := n4_; clear n0_ n1_ n2_ n3_ n4_; (try clear hb); (try clear hb2); (try clear hk); (try clear hi); (try clear ho0)) | (go_at_call 11; (with_reducible refine (prebendlaw11_awake.calls kj46  true _ A102.out).mono ?_); rintro e w106 ⟨rfl, hb⟩; have n0_ := Aside0.mk (Kd.V_below (by (with_reducible repeat (first | apply Kd.V_alloc | apply Kd.V_drewN | apply Kd.V_drew)); exact HO_14.out) hb); have n1_ := Aside0.mk (Kd.V_below (by (with_reducible repeat (first | apply Kd.V_alloc | apply Kd.V_drewN | apply Kd.V_drew)); exact HO_16.out) hb); have n2_ := Aside0.mk (Kd.V_below (by (with_reducible repeat (first | apply Kd.V_alloc | apply Kd.V_drewN | apply Kd.V_drew)); exact HO_19.out) hb); have n3_ := Aside0.mk (Kd.V_below (by (with_reducible repeat (first | apply Kd.V_alloc | apply Kd.V_drewN | apply Kd.V_drew)); exact HO465.out) hb); have n4_ := Aside0.mk (below_step (by repeat (first | (with_reducible first | exact HB.out | apply below_alloc | apply pw_below_drewN | apply below_drew1) | exact HB.out)) hb); clear HO_14; clear HO_16; clear HO_19; clear HO465; clear HB; have HO_14 := n0_; have HO_16 := n1_; have HO_19 := n2_; have HO465 := n3_; have HB := n4_; clear n0_ n1_ n2_ n3_ n4_; (try clear hb); (try clear hb2); (try clear hk); (try clear hi))))
                          go_ret
                          exact ⟨by first | rfl | (simp [errW_none, errW_some] <;> rfl) | (simp [*, errW_none, errW_some] <;> rfl), by repeat (first | (with_reducible first | exact HB.out | apply below_alloc | apply pw_below_drewN | apply below_drew1) | exact HB.out)⟩
                        · rw [if_neg c104] at H
                          have c104b0 : decide (a5 < 0) = false := decide_eq_false c104
                          clear c104
                          obtain rfl := Option.some.inj H
                          go_wp2_with (first | (go_at_call 21; (with_reducible refine (draw_Charge.calls kj46 _ _ t450 a5 t463 t466 _ ?side1 ?side2 A54.out).mono ?_); (case side1 => repeat (first | exact (Kd.V_reads' HO_16.out).2.2 | (with_reducible refine Kd.C_alloc ?_ _) | (with_reducible refine Kd.C_drewN ?_ _) | (with_reducible refine Kd.C_drew ?_))); (case side2 => exact (Kd.V_reads' HO_16.out).2.1); rintro e w107 ⟨v464, rfl, ho0, hb⟩; have n0_ := Aside0.mk (Kd.V_below (by (with_reducible repeat (first | apply Kd.V_alloc | apply Kd.V_drewN | apply Kd.V_drew)); exact HO_14.out) hb); have n1_ := Aside0.mk (Kd.V_below (by (with_reducible repeat (first | apply Kd.V_alloc | apply Kd.V_drewN | apply Kd.V_drew)); exact HO_16.out) hb); have n2_ := Aside0.mk (Kd.V_below (by (with_reducible repeat (first | apply Kd.V_alloc | apply Kd.V_drewN | apply Kd.V_drew)); exact HO_19.out) hb); have n3_ := Aside0.mk (Kd.V_lower (Kd.V_mono (ok' := fun k_ => True) ho0 (fun k_ hk_ => trivial)) (below_size (by repeat (first | (with_reducible first | exact HB.out | apply below_alloc | apply pw_below_drewN | apply below_drew1) | exact HB.out)))); have n4_ := Aside0.mk (below_step (by repeat (first | (with_reducible first | exact HB.out | apply below_alloc | apply pw_below_drewN | apply below_drew1) | exact HB.out)) hb); clear HO_14; clear HO_16; clear HO_19; clear HB; have HO_14 := n0_; have HO_16 := n1_; have HO_19 := n2_; have HO465 := n3_; have HB := n4_; clear n0_ n1_ n2_ n3_ n4_; (try clear hb); (try clear hb2); (try clear hk); (try clear hi); (try clear ho0)) | (go_at_call 11; (with_reducible refine (prebendlaw11_awake.calls kj46  true _ A102.out).mono ?_); rintro e w108 ⟨rfl, hb⟩; have n0_ := Aside0.mk (Kd.V_below (by (with_reducible repeat (first | apply Kd.V_alloc | apply Kd.V_drewN | apply Kd.V_drew)); exact HO_14.out) hb); have n1_ := Aside0.mk (Kd.V_below (by (with_reducible repeat (first | apply Kd.V_alloc | apply Kd.V_drewN | apply Kd.V_drew)); exact HO_16.out) hb); have n2_ := Aside0.mk (Kd.V_below (by (with_reducible repeat (first | apply Kd.V_alloc | apply Kd.V_drewN | apply Kd.V_drew)); exact HO_19.out) hb); have n3_ := Aside0.mk (Kd.V_below (by (with_reducible repeat (first | apply Kd.V_alloc | apply Kd.V_drewN | apply Kd.V_drew)); exact HO465.out) hb); have n4_ := Aside0.mk (below_step (by repeat (first | (with_reducible first | exact HB.out | apply below_alloc | apply pw_below_drewN | apply below_drew1) | exact HB.out)) hb); clear HO_14; clear HO_16; clear HO_19; clear HO465; clear HB; have HO_14 := n0_; have HO_16 := n1_; have HO_19 := n2_; have HO465 := n3_; have HB := n4_; clear n0_ n1_ n2_ n3_ n4_; (try clear hb); (try clear hb2); (try clear hk); (try clear hi)))
                          repeat (go_quiet (first | (go_at_call 21; (with_reducible refine (draw_Charge.calls kj46 _ _ t450 a5 t463 t466 _ ?side1 ?side2 A54.out).mono ?_); (case side1 => repeat (first | exact (Kd.V_reads' HO_16.out).2.2 | (with_reducible refine Kd.C_alloc ?_ _) | (with_reducible refine Kd.C_drewN ?_ _) | (with_reducible refine Kd.C_drew ?_))); (case side2 => exact (Kd.V_reads' HO_16.out).2.1); rintro e w107 ⟨v464, rfl, ho0, hb⟩; have n0_ := Aside0.mk (Kd.V_below (by (with_reducible repeat (first | apply Kd.V_alloc | apply Kd.V_drewN | apply Kd.V_drew)); exact HO_14.out) hb); have n1_ := Aside0.mk (Kd.V_below (by (with_reducible repeat (first | apply Kd.V_alloc | apply Kd.V_drewN | apply Kd.V_drew)); exact HO_16.out) hb); have n2_ := Aside0.mk (Kd.V_below (by (with_reducible repeat (first | apply Kd.V_alloc | apply Kd.V_drewN | apply Kd.V_drew)); exact HO_19.out) hb); have n3_ := Aside0.mk (Kd.V_lower (Kd.V_mono (ok' := fun k_ => True) ho0 (fun k_ hk_ => trivial)) (below_size (by repeat (first | (with_reducible first | exact HB.out | apply below_alloc | apply pw_below_drewN | apply below_drew1) | exact HB.out)))); have n4_ := Aside0.mk (below_step (by repeat (first | (with_reducible first | exact HB.out | apply below_alloc | apply pw_below_drewN | apply below_drew1) | exact HB.out)) hb); clear HO_14; clear HO_16; clear HO_19; clear HB; have HO_14 := n0_; have HO_16 := n1_; have HO_19 := n2_; have HO465 := n3_; have HB := n4_; clear n0_ n1_ n2_ n3_ n4_; (try clear hb); (try clear hb2); (try clear hk); (try clear hi); (try clear ho0)) | (go_at_call 11; (with_reducible refine (prebendlaw11_awake.calls kj46  true _ A102.out).mono ?_); rintro e w108 ⟨rfl, hb⟩; have n0_ := Aside0.mk (Kd.V_below (by (with_reducible repeat (first | apply Kd.V_alloc | apply Kd.V_drewN | apply Kd.V_drew)); exact HO_14.out) hb); have n1_ := Aside0.mk (Kd.V_below (by (with_reducible repeat (first | apply Kd.V_alloc | apply Kd.V_drewN | apply Kd.V_drew)); exact HO_16.out) hb); have n2_ := Aside0.mk (Kd.V_below (by (with_reducible repeat (first | apply Kd.V_alloc | apply Kd.V_drewN | apply Kd.V_drew)); exact HO_19.out) hb); have n3_ := Aside0.mk (Kd.V_below (by (with_reducible repeat (first | apply Kd.V_alloc | apply Kd.V_drewN | apply Kd.V_drew)); exact HO465.out) hb); have n4_ := Aside0.mk (below_step (by repeat (first | (with_reducible first | exact HB.out | apply below_alloc | apply pw_below_drewN | apply below_drew1) | exact HB.out)) hb); clear HO_14; clear HO_16; clear HO_19; clear HO465; clear HB; have HO_14 := n0_; have HO_16 := n1_; have HO_19 := n2_; have HO465 := n3_; have HB := n4_; clear n0_ n1_ n2_ n3_ n4_; (try clear hb); (try clear hb2); (try clear hk); (try clear hi))); try go_wp2_with (first | (go_at_call 21; (with_reducible refine (draw_Charge.calls kj46 _ _ t450 a5 t463 t466 _ ?side1 ?side2 A54.out).mono ?_); (case side1 => repeat (first | exact (Kd.V_reads' HO_16.out).2.2 | (with_reducible refine Kd.C_alloc ?_ _) | (with_reducible refine Kd.C_drewN ?_ _) | (with_reducible refine Kd.C_drew ?_))); (case side2 => exact (Kd.V_reads' HO_16.out).2.1); rintro e w107 ⟨v464, rfl, ho0, hb⟩; have n0_ := Aside0.mk (Kd.V_below (by (with_reducible repeat (first | apply Kd.V_alloc | apply Kd.V_drewN | apply Kd.V_drew)); exact HO_14.out) hb); have n1_ := Aside0.mk (Kd.V_below (by (with_reducible repeat (first | apply Kd.V_alloc | apply Kd.V_drewN | apply Kd.V_drew)); exact HO_16.out) hb); have n2_ := Aside0.mk (Kd.V_below (by (with_reducible repeat (first | apply Kd.V_alloc | apply Kd.V_drewN | apply Kd.V_drew)); exact HO_19.out) hb); have n3_ := Aside0.mk (Kd.V_lower (Kd.V_mono (ok' := fun k_ => True) ho0 (fun k_ hk_ => trivial)) (below_size (by repeat (first | (with_reducible first | exact HB.out | apply below_alloc | apply pw_below_drewN | apply below_drew1) | exact HB.out)))); have n4_ := Aside0.mk (below_step (by repeat (first | (with_reducible first | exact HB.out | apply below_alloc | apply pw_below_drewN | apply below_drew1) | exact HB.out)) hb); clear HO_14; clear HO_16; clear HO_19; clear HB; have HO_14 := n0_; have HO_16 := n1_; have HO_19 := n2_; have HO465 := n3_; have HB := n4_; clear n0_ n1_ n2_ n3_ n4_; (try clear hb); (try clear hb2); (try clear hk); (try clear hi); (try clear ho0)) | (go_at_call 11; (with_reducible refine (prebendlaw11_awake.calls kj46  true _ A102.out).mono ?_); rintro e w108 ⟨rfl, hb⟩; have n0_ := Aside0.mk (Kd.V_below (by (with_reducible repeat (first | apply Kd.V_alloc | apply Kd.V_drewN | apply Kd.V_drew)); exact HO_14.out) hb); have n1_ := Aside0.mk (Kd.V_below (by (with_reducible repeat (first | apply Kd.V_alloc | apply Kd.V_drewN | apply Kd.V_drew)); exact HO_16.out) hb); have n2_ := Aside0.mk (Kd.V_below (by (with_reducible repeat (first | apply Kd.V_alloc | apply Kd.V_drewN | apply Kd.V_drew)); exact HO_19.out) hb); have n3_ := Aside0.mk (Kd.V_below (by (with_reducible repeat (first | apply Kd.V_alloc | apply Kd.V_drewN | apply Kd.V_drew)); exact HO465.out) hb); have n4_ := Aside0.mk (below_step (by repeat (first | (with_reducible first | exact HB.out | apply below_alloc | apply pw_below_drewN | apply below_drew1) | exact HB.out)) hb); clear HO_14; clear HO_16; clear HO_19; clear HO465; clear HB; have HO_14 := n0_; have HO_16 := n1_; have HO_19 := n2_; have HO465 := n3_; have HB := n4_; clear n0_ n1_ n2_ n3_ n4_; (try clear hb); (try clear hb2); (try clear hk); (try clear hi))))
                          go_ret
                          exact ⟨by first | rfl | (simp [errW_none, errW_some] <;> rfl) | (simp [*, errW_none, errW_some] <;> rfl), by repeat (first | (with_reducible first | exact HB.out | apply below_alloc | apply pw_below_drewN | apply below_drew1) | exact HB.out)⟩
                      · replace c103 := Bool.eq_false_iff.mpr c103
                        subst c103
                        have H1 : (some false) = some r := by rw [if_neg (show ¬ (false = true) by decide)] at H; exact H
                        clear H
                        have H := H1
                        clear H1
                        obtain rfl := Option.some.inj H
                        go_wp2_with (first | (go_at_call 21; (with_reducible refine (draw_Charge.calls kj46 _ _ t450 a5 t463 t466 _ ?side1 ?side2 A54.out).mono ?_); (case side1 => repeat (first | exact (Kd.V_reads' HO_16.out).2.2 | (with_reducible refine Kd.C_alloc ?_ _) | (with_reducible refine Kd.C_drewN ?_ _) | (with_reducible refine Kd.C_drew ?_))); (case side2 => exact (Kd.V_reads' HO_16.out).2.1); rintro e w109 ⟨v464, rfl, ho0, hb⟩; have n0_ := Aside0.mk (Kd.V_below (by (with_reducible repeat (first | apply Kd.V_alloc | apply Kd.V_drewN | apply Kd.V_drew)); exact HO_14.out) hb); have n1_ := Aside0.mk (Kd.V_below (by (with_reducible repeat (first | apply Kd.V_alloc | apply Kd.V_drewN | apply Kd.V_drew)); exact HO_16.out) hb); have n2_ := Aside0.mk (Kd.V_below (by (with_reducible repeat (first | apply Kd.V_alloc | apply Kd.V_drewN | apply Kd.V_drew)); exact HO_19.out) hb); have n3_ := Aside0.mk (Kd.V_lower (Kd.V_mono (ok' := fun k_ => True) ho0 (fun k_ hk_ => trivial)) (below_size (by repeat (first | (with_reducible first | exact HB.out | apply below_alloc | apply pw_below_drewN | apply below_drew1) | exact HB.out)))); have n4_ := Aside0.mk (below_step (by repeat (first | (with_reducible first | exact HB.out | apply below_alloc | apply pw_below_drewN | apply below_drew1) | exact HB.out)) hb); clear HO_14; clear HO_16; clear HO_19; clear HB; have HO_14 := n0_; have HO_16 := n1_; have HO_19 := n2_; have HO465 := n3_; have HB := n4_; clear n0_ n1_ n2_ n3_ n4_; (try clear hb); (try clear hb2); (try clear hk); (try clear hi); (try clear ho0)) | (go_at_call 11; (with_reducible refine (prebendlaw11_awake.calls kj46  false _ A102.out).mono ?_); rintro e w110 ⟨rfl, hb⟩; have n0_ := Aside0.mk (Kd.V_below (by (with_reducible repeat (first | apply Kd.V_alloc | apply Kd.V_drewN | apply Kd.V_drew)); exact HO_14.out) hb); have n1_ := Aside0.mk (Kd.V_below (by (with_reducible repeat (first | apply Kd.V_alloc | apply Kd.V_drewN | apply Kd.V_drew)); exact HO_16.out) hb); have n2_ := Aside0.mk (Kd.V_below (by (with_reducible repeat (first | apply Kd.V_alloc | apply Kd.V_drewN | apply Kd.V_drew)); exact HO_19.out) hb); have n3_ := Aside0.mk (Kd.V_below (by (with_reducible repeat (first | apply Kd.V_alloc | apply Kd.V_drewN | apply Kd.V_drew)); exact HO465.out) hb); have n4_ := Aside0.mk (below_step (by repeat (first | (with_reducible first | exact HB.out | apply below_alloc | apply pw_below_drewN | apply below_drew1) | exact HB.out)) hb); clear HO_14; clear HO_16; clear HO_19; clear HO465; clear HB; have HO_14 := n0_; have HO_16 := n1_; have HO_19 := n2_; have HO465 := n3_; have HB := n4_; clear n0_ n1_ n2_ n3_ n4_; (try clear hb); (try clear hb2); (try clear hk); (try clear hi)))
                        repeat (go_quiet (first | (go_at_call 21; (with_reducible refine (draw_Charge.calls kj46 _ _ t450 a5 t463 t466 _ ?side1 ?side2 A54.out).mono ?_); (case side1 => repeat (first | exact (Kd.V_reads' HO_16.out).2.2 | (with_reducible refine Kd.C_alloc ?_ _) | (with_reducible refine Kd.C_drewN ?_ _) | (with_reducible refine Kd.C_drew ?_))); (case side2 => exact (Kd.V_reads' HO_16.out).2.1); rintro e w109 ⟨v464, rfl, ho0, hb⟩; have n0_ := Aside0.mk (Kd.V_below (by (with_reducible repeat (first | apply Kd.V_alloc | apply Kd.V_drewN | apply Kd.V_drew)); exact HO_14.out) hb); have n1_ := Aside0.mk (Kd.V_below (by (with_reducible repeat (first | apply Kd.V_alloc | apply Kd.V_drewN | apply Kd.V_drew)); exact HO_16.out) hb); have n2_ := Aside0.mk (Kd.V_below (by (with_reducible repeat (first | apply Kd.V_alloc | apply Kd.V_drewN | apply Kd.V_drew)); exact HO_19.out) hb); have n3_ := Aside0.mk (Kd.V_lower (Kd.V_mono (ok' := fun k_ => True) ho0 (fun k_ hk_ => trivial)) (below_size (by repeat (first | (with_reducible first | exact HB.out | apply below_alloc | apply pw_below_drewN | apply below_drew1) | exact HB.out)))); have n4_ := Aside0.mk (below_step (by repeat (first | (with_reducible first | exact HB.out | apply below_alloc | apply pw_below_drewN | apply below_drew1) | exact HB.out)) hb); clear HO_14; clear HO_16; clear HO_19; clear HB; have HO_14 := n0_; have HO_16 := n1_; have HO_19 := n2_; have HO465 := n3_; have HB := n4_; clear n0_ n1_ n2_ n3_ n4_; (try clear hb); (try clear hb2); (try clear hk); (try clear hi); (try clear ho0)) | (go_at_call 11; (with_reducible refine (prebendlaw11_awake.calls kj46  false _ A102.out).mono ?_); rintro e w110 ⟨rfl, hb⟩; have n0_ := Aside0.mk (Kd.V_below (by (with_reducible repeat (first | apply Kd.V_alloc | apply Kd.V_drewN | apply Kd.V_drew)); exact HO_14.out) hb); have n1_ := Aside0.mk (Kd.V_below (by (with_reducible repeat (first | apply Kd.V_alloc | apply Kd.V_drewN | apply Kd.V_drew)); exact HO_16.out) hb); have n2_ := Aside0.mk (Kd.V_below (by (with_reducible repeat (first | apply Kd.V_alloc | apply Kd.V_drewN | apply Kd.V_drew)); exact HO_19.out) hb); have n3_ := Aside0.mk (Kd.V_below (by (with_reducible repeat (first | apply Kd.V_alloc | apply Kd.V_drewN | apply Kd.V_drew)); exact HO465.out) hb); have n4_ := Aside0.mk (below_step (by repeat (first | (with_reducible first | exact HB.out | apply below_alloc | apply pw_below_drewN | apply below_drew1) | exact HB.out)) hb); clear HO_14; clear HO_16; clear HO_19; clear HO465; clear HB; have HO_14 := n0_; have HO_16 := n1_; have HO_19 := n2_; have HO465 := n3_; have HB := n4_; clear n0_ n1_ n2_ n3_ n4_; (try clear hb); (try clear hb2); (try clear hk); (try clear hi))); try go_wp2_with (first | (go_at_call 21; (with_reducible refine (draw_Charge.calls kj46 _ _ t450 a5 t463 t466 _ ?side1 ?side2 A54.out).mono ?_); (case side1 => repeat (first | exact (Kd.V_reads' HO_16.out).2.2 | (with_reducible refine Kd.C_alloc ?_ _) | (with_reducible refine Kd.C_drewN ?_ _) | (with_reducible refine Kd.C_drew ?_))); (case side2 => exact (Kd.V_reads' HO_16.out).2.1); rintro e w109 ⟨v464, rfl, ho0, hb⟩; have n0_ := Aside0.mk (Kd.V_below (by (with_reducible repeat (first | apply Kd.V_alloc | apply Kd.V_drewN | apply Kd.V_drew)); exact HO_14.out) hb); have n1_ := Aside0.mk (Kd.V_below (by (with_reducible repeat (first | apply Kd.V_alloc | apply Kd.V_drewN | apply Kd.V_drew)); exact HO_16.out) hb); have n2_ := Aside0.mk (Kd.V_below (by (with_reducible repeat (first | apply Kd.V_alloc | apply Kd.V_drewN | apply Kd.V_drew)); exact HO_19.out) hb); have n3_ := Aside0.mk (Kd.V_lower (Kd.V_mono (ok' := fun k_ => True) ho0 (fun k_ hk_ => trivial)) (below_size (by repeat (first | (with_reducible first | exact HB.out | apply below_alloc | apply pw_below_drewN | apply below_drew1) | exact HB.out)))); have n4_ := Aside0.mk (below_step (by repeat (first | (with_reducible first | exact HB.out | apply below_alloc | apply pw_below_drewN | apply below_drew1) | exact HB.out)) hb); clear HO_14; clear HO_16; clear HO_19; clear HB; have HO_14 := n0_; have HO_16 := n1_; have HO_19 := n2_; have HO465 := n3_; have HB := n4_; clear n0_ n1_ n2_ n3_ n4_; (try clear hb); (try clear hb2); (try clear hk); (try clear hi); (try clear ho0)) | (go_at_call 11; (with_reducible refine (prebendlaw11_awake.calls kj46  false _ A102.out).mono ?_); rintro e w110 ⟨rfl, hb⟩; have n0_ := Aside0.mk (Kd.V_below (by (with_reducible repeat (first | apply Kd.V_alloc | apply Kd.V_drewN | apply Kd.V_drew)); exact HO_14.out) hb); have n1_ := Aside0.mk (Kd.V_below (by (with_reducible repeat (first | apply Kd.V_alloc | apply Kd.V_drewN | apply Kd.V_drew)); exact HO_16.out) hb); have n2_ := Aside0.mk (Kd.V_below (by (with_reducible repeat (first | apply Kd.V_alloc | apply Kd.V_drewN | apply Kd.V_drew)); exact HO_19.out) hb); have n3_ := Aside0.mk (Kd.V_below (by (with_reducible repeat (first | apply Kd.V_alloc | apply Kd.V_drewN | apply Kd.V_drew)); exact HO465.out) hb); have n4_ := Aside0.mk (below_step (by repeat (first | (with_reducible first | exact HB.out | apply below_alloc | apply pw_below_drewN | apply below_drew1) | exact HB.out)) hb); clear HO_14; clear HO_16; clear HO_19; clear HO465; clear HB; have HO_14 := n0_; have HO_16 := n1_; have HO_19 := n2_; have HO465 := n3_; have HB := n4_; clear n0_ n1_ n2_ n3_ n4_; (try clear hb); (try clear hb2); (try clear hk); (try clear hi))))
                        go_ret
                        exact ⟨by first | rfl | (simp [errW_none, errW_some] <;> rfl) | (simp [*, errW_none, errW_some] <;> rfl), by repeat (first | (with_reducible first | exact HB.out | apply below_alloc | apply pw_below_drewN | apply below_drew1) | exact HB.out)⟩

def prebendlaw11_DrawRound.Pure : Prop := ∀ (l0 : List (S62)) (l1 : List (S46)) (a2 : Int) (a3 : Int) (a4 : Int) (a5 : Int), (l0.length ≤ maxLen ∧ ∀ y ∈ l0, g62 y) → (l1.length ≤ maxLen ∧ ∀ y ∈ l1, g46 y) → (Lit.int .i64 a2).wf = true → (Lit.int .i64 a3).wf = true → (Lit.int .i64 a4).wf = true → (Lit.int .i64 a5).wf = true → ∃ k, prebendlaw11_DrawRound.f k l0 l1 a2 a3 a4 a5 = some true
theorem prebendlaw11_DrawRound.walk (P : prebendlaw11_DrawRound.Pure) (A0 : Option Addr) (c0 : Nat) (l0 : List (S62)) (A1 : Option Addr) (c1 : Nat) (l1 : List (S46)) (a2 : Int) (a3 : Int) (a4 : Int) (a5 : Int) (w : World) (hr0 : Kd.C k62 w A0 l0.length l0) (hc0 : l0.length ≤ c0) (hr1 : Kd.C k46 w A1 l1.length l1) (hc1 : l1.length ≤ c1) (h0_ : (l0.length ≤ maxLen ∧ ∀ y ∈ l0, g62 y)) (h1_ : (l1.length ≤ maxLen ∧ ∀ y ∈ l1, g46 y)) (h2_ : (Lit.int .i64 a2).wf = true) (h3_ : (Lit.int .i64 a3).wf = true) (h4_ : (Lit.int .i64 a4).wf = true) (h5_ : (Lit.int .i64 a5).wf = true) :
    Calls Try.prog 7 #[.slice A0 l0.length c0, .slice A1 l1.length c1, .int .i64 a2, .int .i64 a3, .int .i64 a4, .int .i64 a5] w fun e w' => e = .returned (.bool true) ∧ Below w.heap.size w w' := by
  obtain ⟨k, h⟩ := P l0 l1 a2 a3 a4 a5 h0_ h1_ h2_ h3_ h4_ h5_
  refine (prebendlaw11_DrawRound.calls k A0 c0 l0 A1 c1 l1 a2 a3 a4 a5 true w hr0 hc0 hr1 hc1 h).mono ?_
  rintro e w' ⟨rfl, hd⟩
  exact ⟨rfl, hd⟩

end Go.Proofs.Ytlccomoiajnkmaa.PAll
end
