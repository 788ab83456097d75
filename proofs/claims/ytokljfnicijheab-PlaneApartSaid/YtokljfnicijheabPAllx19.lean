/- Contracts of functions of the program, each with a plain function of the same answers; written by a program of this workplace. -/
import Derived.Test.YtokljfnicijheabPAllx0
import Derived.Test.YtokljfnicijheabPAllx9
import Derived.Test.YtokljfnicijheabPAllx12
import Derived.Test.YtokljfnicijheabPAllx18
namespace Go.Proofs.Ytokljfnicijheab.PAll
open Go.RowKit Go.Proofs.YtokljfnicijheabW.PrintWords Go.Proofs.YtokljfnicijheabW.PrintLast Go.Proofs.YtokljfnicijheabW.PrintMore
attribute [local go_sem] max2_int min2_int max_two min_two max_three min_three max_four min_four   -- for this text's walks alone
set_option linter.unusedVariables false
set_option linter.unusedSimpArgs false

/-! ### prebendlaw02_PlaneApart: function 4 -/
def prebendlaw02_PlaneApart.f (k : Nat) (l0 : List (S23)) : Option (Bool) := if (l0.length : Int) > 60 then (if 60 ≤ (l0.length : Int) then ((some (l0.take 60 : List (S23))).bind fun y168 => ((prebendlaw02_awake.f k).bind fun t172 => (if t172 = true then ((plane_Apart.f k y168).bind fun t173 => ((prebendref02_Apart.f k y168).bind fun t174 => (some (t173 == t174)))) else (some false)))) else (none)) else ((prebendlaw02_awake.f k).bind fun t175 => (if t175 = true then ((plane_Apart.f k l0).bind fun t176 => ((prebendref02_Apart.f k l0).bind fun t177 => (some (t176 == t177)))) else (some false)))
theorem prebendlaw02_PlaneApart.mono : ∀ a0 k, LeO (prebendlaw02_PlaneApart.f k a0) (prebendlaw02_PlaneApart.f (k + 1) a0) := by
  intro a0 k
  unfold prebendlaw02_PlaneApart.f
  repeat' first
      | (with_reducible exact plane_Apart.mono _ _)
      | (with_reducible exact prebendlaw02_awake.mono _)
      | (with_reducible exact prebendref02_Apart.mono _ _)
      | (with_reducible exact LeO.refl _)
      | (with_reducible exact LeO.none _)
      | (with_reducible refine LeO.ite ?_ ?_)
      | (with_reducible refine LeO.bind ?_ (fun _ => ?_))
      | exact plane_Apart.mono _ _
      | exact prebendlaw02_awake.mono _
      | exact prebendref02_Apart.mono _ _
      | exact LeO.none _
      | refine LeO.ite ?_ ?_
      | refine LeO.bind ?_ (fun _ => ?_)
set_option maxHeartbeats 8000000 in
set_option maxRecDepth 100000 in
theorem prebendlaw02_PlaneApart.calls (k : Nat) (A0 : Option Addr) (c0 : Nat) (l0 : List (S23)) (r : Bool) (w : World) (hr0 : Kd.C k23 w A0 l0.length l0) (hc0 : l0.length ≤ c0) (h : prebendlaw02_PlaneApart.f k l0 = some r) :
    Calls Try.prog 4 #[.slice A0 l0.length c0] w fun e w' => e = .returned (.bool r) ∧ Below w.heap.size w w' := by
  have HR0 := Aside0.mk hr0
  have HC0 := Aside0.mk hc0
  clear hr0 hc0
  have HB := Aside0.mk (Below.refl w.heap.size w)
  have H : (if (l0.length : Int) > 60 then (if 60 ≤ (l0.length : Int) then ((some (l0.take 60 : List (S23))).bind fun y168 => ((prebendlaw02_awake.f k).bind fun t172 => (if t172 = true then ((plane_Apart.f k y168).bind fun t173 => ((prebendref02_Apart.f k y168).bind fun t174 => (some (t173 == t174)))) else (some false)))) else (none)) else ((prebendlaw02_awake.f k).bind fun t175 => (if t175 = true then ((plane_Apart.f k l0).bind fun t176 => ((prebendref02_Apart.f k l0).bind fun t177 => (some (t176 == t177)))) else (some false)))) = some r := h
  clear h
  by_cases c2 : (l0.length : Int) > 60
  · rw [if_pos c2] at H
    have c2b0 : decide (60 < (l0.length : Int)) = true := decide_eq_true c2
    have c2b1 : decide (60 < l0.length) = true := decide_eq_true (by omega)
    clear c2
    by_cases c3 : 60 ≤ (l0.length : Int)
    · rw [if_pos c3] at H
      have c3b0 := eq_true c3
      have c3b1 : decide (60 ≤ (l0.length : Int)) = true := decide_eq_true c3
      clear c3
      obtain ⟨y168, hy168⟩ : ∃ y_ : List (S23), y_ = (l0.take 60) := ⟨_, rfl⟩
      replace H : ((prebendlaw02_awake.f k).bind fun t172 => (if t172 = true then ((plane_Apart.f k y168).bind fun t173 => ((prebendref02_Apart.f k y168).bind fun t174 => (some (t173 == t174)))) else (some false))) = some r := by first | (rw [hy168]; with_reducible exact H) | (have H2_ := (Option.bind_some _ _).symm.trans H; rw [hy168]; with_reducible exact H2_) | (have H2_ := (Option.bind_some _ _).symm.trans H; with_reducible exact H2_) | with_reducible exact H | (rw [hy168]; exact H) | exact H
      have Ny168 := Aside0.mk hy168
      clear hy168
      replace H := Option.bind_eq_some_iff.mp H
      obtain ⟨t172, A40, H⟩ := H
      replace H : (if t172 = true then ((plane_Apart.f k y168).bind fun t173 => ((prebendref02_Apart.f k y168).bind fun t174 => (some (t173 == t174)))) else (some false)) = some r := H
      have A4 := Aside0.mk A40
      clear A40
      by_cases c5 : t172 = true
      · subst c5
        have H1 : ((plane_Apart.f k y168).bind fun t173 => ((prebendref02_Apart.f k y168).bind fun t174 => (some (t173 == t174)))) = some r := by rw [if_pos rfl] at H; exact H
        clear H
        have H := H1
        clear H1
        replace H := Option.bind_eq_some_iff.mp H
        obtain ⟨t173, A60, H⟩ := H
        replace H : ((prebendref02_Apart.f k y168).bind fun t174 => (some (t173 == t174))) = some r := H
        have A6 := Aside0.mk A60
        clear A60
        replace H := Option.bind_eq_some_iff.mp H
        obtain ⟨t174, A70, H⟩ := H
        replace H : (some (t173 == t174)) = some r := H
        have A7 := Aside0.mk A70
        clear A70
        obtain rfl := Option.some.inj H
        have q8 : (60 : Int) ≤ ((l0.length : Int) : Int) := of_decide_eq_true (by first | (with_reducible assumption) | assumption)
        obtain ⟨i08, hi08, _, hsz8, _⟩ := info_parts info23
        have hroom8 : l0.length ≤ c0 := HC0.out
        have hC8 : Kd.C k23 _ A0 l0.length l0 := HR0.out
        have hcut8 := cut_to (P := Try.prog) 28 23 .i64 Try.underlying28 hi08 A0 l0.length c0 60 (by omega) q8 hroom8
        have hr8 := Kd.C_take (m := 60) hC8 (by omega)
        have hy8 : y168.length = (60 : Int).toNat := (by rw [Ny168.out, List.length_take]; omega)
        rw [← Ny168.out] at hr8
        rw [← hy8] at hcut8
        have HR171 := Aside0.mk hr8
        have HC171 := Aside0.mk (show y168.length ≤ c0 from by omega)
        clear hr8 hC8 hroom8 hi08 hsz8
        have KY8 := Aside0.mk hy8
        clear hy8
        replace q8 := eq_true q8
        go_enter Try.func4, Try.ntmps4
        go_wp2_with (first | ((with_reducible refine gate_callee (f := 8) rfl ?_); refine goesL_ (some 8) rfl rfl Try.func8 (by kernel_rfl) rfl #[] rfl (by (try simp only [List.map_toArray, List.map_cons, List.map_nil]); first | done | rfl | (simp only [List.length_drop, List.length_take]; rfl)) ?_; (with_reducible refine (prebendlaw02_awake.calls k  true _ A4.out).mono ?_); rintro e w9 ⟨rfl, hb⟩; refine ⟨_, rfl, ?_⟩; have n0_ := Aside0.mk (below_step (by repeat (first | (with_reducible first | exact HB.out | apply below_alloc | apply pw_below_drewN | apply below_drew1) | exact HB.out)) hb); clear HB; have HB := n0_; clear n0_; (try clear hb); (try clear hb2); (try clear hk); (try clear hi)) | (go_at_call 15; (with_reducible refine (plane_Apart.calls k _ _ y168 t173 _ ?side1 ?side2 A6.out).mono ?_); (case side1 => repeat (first | exact (Kd.C_below HR171.out HB.out) | (with_reducible refine Kd.C_alloc ?_ _) | (with_reducible refine Kd.C_drewN ?_ _) | (with_reducible refine Kd.C_drew ?_))); (case side2 => exact HC171.out); rintro e w10 ⟨rfl, hb⟩; have n0_ := Aside0.mk (below_step (by repeat (first | (with_reducible first | exact HB.out | apply below_alloc | apply pw_below_drewN | apply below_drew1) | exact HB.out)) hb); clear HB; have HB := n0_; clear n0_; (try clear hb); (try clear hb2); (try clear hk); (try clear hi)) | (go_at_call 16; (with_reducible refine (prebendref02_Apart.calls k _ _ y168 t174 _ ?side1 ?side2 A7.out).mono ?_); (case side1 => repeat (first | exact (Kd.C_below HR171.out HB.out) | (with_reducible refine Kd.C_alloc ?_ _) | (with_reducible refine Kd.C_drewN ?_ _) | (with_reducible refine Kd.C_drew ?_))); (case side2 => exact HC171.out); rintro e w11 ⟨rfl, hb⟩; have n0_ := Aside0.mk (below_step (by repeat (first | (with_reducible first | exact HB.out | apply below_alloc | apply pw_below_drewN | apply below_drew1) | exact HB.out)) hb); clear HB; have HB := n0_; clear n0_; (try clear hb); (try clear hb2); (try clear hk); (try clear hi)))
        go_ret
        exact ⟨by first | rfl | (simp [errW_none, errW_some] <;> rfl) | (simp [*, errW_none, errW_some] <;> rfl), by repeat (first | (with_reducible first | exact HB.out | apply below_alloc | apply pw_below_drewN | apply below_drew1) | exact HB.out)⟩
      · replace c5 := Bool.eq_false_iff.mpr c5
        subst c5
        have H1 : (some false) = some r := by rw [if_neg (show ¬ (false = true) by decide)] at H; exact H
        clear H
        have H := H1
        clear H1
        obtain rfl := Option.some.inj H
        have q12 : (60 : Int) ≤ ((l0.length : Int) : Int) := of_decide_eq_true (by first | (with_reducible assumption) | assumption)
        obtain ⟨i012, hi012, _, hsz12, _⟩ := info_parts info23
        have hroom12 : l0.length ≤ c0 := HC0.out
        have hC12 : Kd.C k23 _ A0 l0.length l0 := HR0.out
        have hcut12 := cut_to (P := Try.prog) 28 23 .i64 Try.underlying28 hi012 A0 l0.length c0 60 (by omega) q12 hroom12
        have hr12 := Kd.C_take (m := 60) hC12 (by omega)
        have hy12 : y168.length = (60 : Int).toNat := (by rw [Ny168.out, List.length_take]; omega)
        rw [← Ny168.out] at hr12
        rw [← hy12] at hcut12
        have HR171 := Aside0.mk hr12
        have HC171 := Aside0.mk (show y168.length ≤ c0 from by omega)
        clear hr12 hC12 hroom12 hi012 hsz12
        have KY12 := Aside0.mk hy12
        clear hy12
        replace q12 := eq_true q12
        go_enter Try.func4, Try.ntmps4
        go_wp2_with (first | ((with_reducible refine gate_callee (f := 8) rfl ?_); refine goesL_ (some 8) rfl rfl Try.func8 (by kernel_rfl) rfl #[] rfl (by (try simp only [List.map_toArray, List.map_cons, List.map_nil]); first | done | rfl | (simp only [List.length_drop, List.length_take]; rfl)) ?_; (with_reducible refine (prebendlaw02_awake.calls k  false _ A4.out).mono ?_); rintro e w13 ⟨rfl, hb⟩; refine ⟨_, rfl, ?_⟩; have n0_ := Aside0.mk (below_step (by repeat (first | (with_reducible first | exact HB.out | apply below_alloc | apply pw_below_drewN | apply below_drew1) | exact HB.out)) hb); clear HB; have HB := n0_; clear n0_; (try clear hb); (try clear hb2); (try clear hk); (try clear hi)))
        go_ret
        exact ⟨by first | rfl | (simp [errW_none, errW_some] <;> rfl) | (simp [*, errW_none, errW_some] <;> rfl), by repeat (first | (with_reducible first | exact HB.out | apply below_alloc | apply pw_below_drewN | apply below_drew1) | exact HB.out)⟩
    · rw [if_neg c3] at H
      exact absurd H (by simp)
  · rw [if_neg c2] at H
    have c2b0 : decide (60 < (l0.length : Int)) = false := decide_eq_false c2
    have c2b1 : decide (60 < l0.length) = false := decide_eq_false (by omega)
    clear c2
    replace H := Option.bind_eq_some_iff.mp H
    obtain ⟨t175, A140, H⟩ := H
    replace H : (if t175 = true then ((plane_Apart.f k l0).bind fun t176 => ((prebendref02_Apart.f k l0).bind fun t177 => (some (t176 == t177)))) else (some false)) = some r := H
    have A14 := Aside0.mk A140
    clear A140
    by_cases c15 : t175 = true
    · subst c15
      have H1 : ((plane_Apart.f k l0).bind fun t176 => ((prebendref02_Apart.f k l0).bind fun t177 => (some (t176 == t177)))) = some r := by rw [if_pos rfl] at H; exact H
      clear H
      have H := H1
      clear H1
      replace H := Option.bind_eq_some_iff.mp H
      obtain ⟨t176, A160, H⟩ := H
      replace H : ((prebendref02_Apart.f k l0).bind fun t177 => (some (t176 == t177))) = some r := H
      have A16 := Aside0.mk A160
      clear A160
      replace H := Option.bind_eq_some_iff.mp H
      obtain ⟨t177, A170, H⟩ := H
      replace H : (some (t176 == t177)) = some r := H
      have A17 := Aside0.mk A170
      clear A170
      obtain rfl := Option.some.inj H
      go_enter Try.func4, Try.ntmps4
      go_wp2_with (first | ((with_reducible refine gate_callee (f := 8) rfl ?_); refine goesL_ (some 8) rfl rfl Try.func8 (by kernel_rfl) rfl #[] rfl (by (try simp only [List.map_toArray, List.map_cons, List.map_nil]); first | done | rfl | (simp only [List.length_drop, List.length_take]; rfl)) ?_; (with_reducible refine (prebendlaw02_awake.calls k  true _ A14.out).mono ?_); rintro e w18 ⟨rfl, hb⟩; refine ⟨_, rfl, ?_⟩; have n0_ := Aside0.mk (below_step (by repeat (first | (with_reducible first | exact HB.out | apply below_alloc | apply pw_below_drewN | apply below_drew1) | exact HB.out)) hb); clear HB; have HB := n0_; clear n0_; (try clear hb); (try clear hb2); (try clear hk); (try clear hi)) | (go_at_call 15; (with_reducible refine (plane_Apart.calls k _ _ l0 t176 _ ?side1 ?side2 A16.out).mono ?_); (case side1 => repeat (first | exact (Kd.C_below HR0.out HB.out) | (with_reducible refine Kd.C_alloc ?_ _) | (with_reducible refine Kd.C_drewN ?_ _) | (with_reducible refine Kd.C_drew ?_))); (case side2 => exact HC0.out); rintro e w19 ⟨rfl, hb⟩; have n0_ := Aside0.mk (below_step (by repeat (first | (with_reducible first | exact HB.out | apply below_alloc | apply pw_below_drewN | apply below_drew1) | exact HB.out)) hb); clear HB; have HB := n0_; clear n0_; (try clear hb); (try clear hb2); (try clear hk); (try clear hi)) | (go_at_call 16; (with_reducible refine (prebendref02_Apart.calls k _ _ l0 t177 _ ?side1 ?side2 A17.out).mono ?_); (case side1 => repeat (first | exact (Kd.C_below HR0.out HB.out) | (with_reducible refine Kd.C_alloc ?_ _) | (with_reducible refine Kd.C_drewN ?_ _) | (with_reducible refine Kd.C_drew ?_))); (case side2 => exact HC0.out); rintro e w20 ⟨rfl, hb⟩; have n0_ := Aside0.mk (below_step (by repeat (first | (with_reducible first | exact HB.out | apply below_alloc | apply pw_below_drewN | apply below_drew1) | exact HB.out)) hb); clear HB; have HB := n0_; clear n0_; (try clear hb); (try clear hb2); (try clear hk); (try clear hi)))
      go_ret
      exact ⟨by first | rfl | (simp [errW_none, errW_some] <;> rfl) | (simp [*, errW_none, errW_some] <;> rfl), by repeat (first | (with_reducible first | exact HB.out | apply below_alloc | apply pw_below_drewN | apply below_drew1) | exact HB.out)⟩
    · replace c15 := Bool.eq_false_iff.mpr c15
      subst c15
      have H1 : (some false) = some r := by rw [if_neg (show ¬ (false = true) by decide)] at H; exact H
      clear H
      have H := H1
      clear H1
      obtain rfl := Option.some.inj H
      go_enter Try.func4, Try.ntmps4
      go_wp2_with (first | ((with_reducible refine gate_callee (f := 8) rfl ?_); refine goesL_ (some 8) rfl rfl Try.func8 (by kernel_rfl) rfl #[] rfl (by (try simp only [List.map_toArray, List.map_cons, List.map_nil]); first | done | rfl | (simp only [List.length_drop, List.length_take]; rfl)) ?_; (with_reducible refine (prebendlaw02_awake.calls k  false _ A14.out).mono ?_); rintro e w21 ⟨rfl, hb⟩; refine ⟨_, rfl, ?_⟩; have n0_ := Aside0.mk (below_step (by repeat (first | (with_reducible first | exact HB.out | apply below_alloc | apply pw_below_drewN | apply below_drew1) | exact HB.out)) hb); clear HB; have HB := n0_; clear n0_; (try clear hb); (try clear hb2); (try clear hk); (try clear hi)))
      go_ret
      exact ⟨by first | rfl | (simp [errW_none, errW_some] <;> rfl) | (simp [*, errW_none, errW_some] <;> rfl), by repeat (first | (with_reducible first | exact HB.out | apply below_alloc | apply pw_below_drewN | apply below_drew1) | exact HB.out)⟩

/-- THE ONE PURE STATEMENT of prebendlaw02_PlaneApart. -/
def prebendlaw02_PlaneApart.Pure : Prop := ∀ (l0 : List (S23)), (l0.length ≤ maxLen ∧ ∀ y ∈ l0, g23 y) → ∃ k, prebendlaw02_PlaneApart.f k l0 = some true
theorem prebendlaw02_PlaneApart.walk (P : prebendlaw02_PlaneApart.Pure) (A0 : Option Addr) (c0 : Nat) (l0 : List (S23)) (w : World) (hr0 : Kd.C k23 w A0 l0.length l0) (hc0 : l0.length ≤ c0) (h0_ : (l0.length ≤ maxLen ∧ ∀ y ∈ l0, g23 y)) :
    Calls Try.prog 4 #[.slice A0 l0.length c0] w fun e w' => e = .returned (.bool true) ∧ Below w.heap.size w w' := by
  obtain ⟨k, h⟩ := P l0 h0_
  refine (prebendlaw02_PlaneApart.calls k A0 c0 l0 true w hr0 hc0 h).mono ?_
  rintro e w' ⟨rfl, hd⟩
  exact ⟨rfl, hd⟩

end Go.Proofs.Ytokljfnicijheab.PAll
