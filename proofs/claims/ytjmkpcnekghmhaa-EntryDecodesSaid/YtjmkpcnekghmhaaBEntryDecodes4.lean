/- Words, plain functions and contracts of the functions that the law of this claim reaches; no conditions. -/
import Derived.Test.YtjmkpcnekghmhaaBEntryDecodes3
section
namespace Go.Proofs.Ytjmkpcnekghmhaa.PAll
open Go.RowKit Go.Proofs.YtjmkpcnekghmhaaW.PrintWords Go.Proofs.YtjmkpcnekghmhaaW.PrintLast Go.Proofs.YtjmkpcnekghmhaaW.PrintMore
attribute [local go_sem] max2_int min2_int max_two min_two max_three min_three max_four min_four   -- for this text's walks alone
set_option linter.unusedVariables false
set_option linter.unusedSimpArgs false

/-! ### prebendref03_Word: function 22 -/
def prebendref03_Word.j0 : Nat → List Int → Int → Int → Bool → Option (ByteArray × Int)
  | 0, _, _, _, _ => none
  | k + 1, x0, x1, x2, x17 => if x17 = true then (some ((⟨#[]⟩ : ByteArray), (-1))) else (if 0 ≤ x1 then (if x1 < (x0.length : Int) then (if 0 ≤ (wrap64 (x1 + 1)) then (if (wrap64 (x1 + 1)) < (x0.length : Int) then (if (wrap64 ((wrap64 ((wrap64 (rd x0 x1)) * 256)) + (wrap64 (rd x0 (wrap64 (x1 + 1)))))) > x2 then (some ((⟨#[]⟩ : ByteArray), (-1))) else (if (wrap64 ((wrap64 (x1 + 2)) + (wrap64 ((wrap64 ((wrap64 (rd x0 x1)) * 256)) + (wrap64 (rd x0 (wrap64 (x1 + 1)))))))) > (x0.length : Int) then (some ((⟨#[]⟩ : ByteArray), (-1))) else (if 0 ≤ (wrap64 (x1 + 2)) then (if (wrap64 (x1 + 2)) ≤ (wrap64 ((wrap64 (x1 + 2)) + (wrap64 ((wrap64 ((wrap64 (rd x0 x1)) * 256)) + (wrap64 (rd x0 (wrap64 (x1 + 1)))))))) then (if (wrap64 ((wrap64 (x1 + 2)) + (wrap64 ((wrap64 ((wrap64 (rd x0 x1)) * 256)) + (wrap64 (rd x0 (wrap64 (x1 + 1)))))))) ≤ (x0.length : Int) then (some (strOfNums ((x0.take ((wrap64 ((wrap64 (x1 + 2)) + (wrap64 ((wrap64 ((wrap64 (rd x0 x1)) * 256)) + (wrap64 (rd x0 (wrap64 (x1 + 1)))))))) : Int).toNat).drop ((wrap64 (x1 + 2)) : Int).toNat), wrap64 ((wrap64 (x1 + 2)) + (wrap64 ((wrap64 ((wrap64 (rd x0 x1)) * 256)) + (wrap64 (rd x0 (wrap64 (x1 + 1))))))))) else (none)) else (none)) else (none)))) else (none)) else (none)) else (none)) else (none))
def prebendref03_Word.f (k : Nat) (l0 : List Int) (a1 : Int) (a2 : Int) : Option (ByteArray × Int) := if a1 < 0 then (prebendref03_Word.j0 k l0 a1 a2 true) else (prebendref03_Word.j0 k l0 a1 a2 (decide ((wrap64 (a1 + 2)) > (l0.length : Int))))
theorem prebendref03_Word.mono_l : ∀ k, (∀ y0 y1 y2 y3, LeO (prebendref03_Word.j0 k y0 y1 y2 y3) (prebendref03_Word.j0 (k + 1) y0 y1 y2 y3))
  | 0 => fun _ _ _ _ r h => by simp [prebendref03_Word.j0] at h
  | k + 1 => by
    have ih0 := prebendref03_Word.mono_l k
    · intro y0 y1 y2 y3
      unfold prebendref03_Word.j0
      repeat' first
      | (with_reducible exact ih0 _ _ _ _)
      | (with_reducible exact LeO.refl _)
      | (with_reducible exact LeO.none _)
      | (with_reducible refine LeO.ite ?_ ?_)
      | (with_reducible refine LeO.bind ?_ (fun _ => ?_))
      | exact ih0 _ _ _ _
      | exact LeO.none _
      | refine LeO.ite ?_ ?_
      | refine LeO.bind ?_ (fun _ => ?_)
theorem prebendref03_Word.mono : ∀ a0 a1 a2 k, LeO (prebendref03_Word.f k a0 a1 a2) (prebendref03_Word.f (k + 1) a0 a1 a2) := by
  intro a0 a1 a2 k
  have ih0 := prebendref03_Word.mono_l k
  unfold prebendref03_Word.f
  repeat' first
      | (with_reducible exact ih0 _ _ _ _)
      | (with_reducible exact LeO.refl _)
      | (with_reducible exact LeO.none _)
      | (with_reducible refine LeO.ite ?_ ?_)
      | (with_reducible refine LeO.bind ?_ (fun _ => ?_))
      | exact ih0 _ _ _ _
      | exact LeO.none _
      | refine LeO.ite ?_ ?_
      | refine LeO.bind ?_ (fun _ => ?_)
set_option maxHeartbeats 8000000 in
set_option maxRecDepth 100000 in
theorem prebendref03_Word.calls (k : Nat) (A0 : Option Addr) (c0 : Nat) (l0 : List Int) (a1 : Int) (a2 : Int) (r1 : ByteArray) (r2 : Int) (w : World) (hr0 : Kd.C (Kd.int .u8) w A0 l0.length l0) (hc0 : l0.length ≤ c0) (h : prebendref03_Word.f k l0 a1 a2 = some (r1, r2)) :
    Calls Try.prog 22 #[.slice A0 l0.length c0, .int .i64 a1, .int .i64 a2] w fun e w' => e = .returned (.tuple #[.string r1, .int .i64 r2]) ∧ Drawn0 w w' := by
  have HR0 := Aside0.mk hr0
  have HC0 := Aside0.mk hc0
  clear hr0 hc0
  have H : (if a1 < 0 then (prebendref03_Word.j0 k l0 a1 a2 true) else (prebendref03_Word.j0 k l0 a1 a2 (decide ((wrap64 (a1 + 2)) > (l0.length : Int))))) = some (r1, r2) := h
  clear h
  have HC4 := Aside0.mk H
  clear H
  go_enter Try.func22, Try.ntmps22
  go_upto_region 1 with (fail)
  repeat (go_quiet (fail); go_upto_region 1 with (fail))
  go_cut [17] (fun v17 wc => ∃ (kq : Nat) (x17_3 : Bool), v17 = .bool x17_3 ∧ Aside0 (prebendref03_Word.j0 kq l0 a1 a2 x17_3 = some (r1, r2)) ∧ Aside0 (kq ≤ k) ∧ Drawn0 w wc)
  case first =>
    have H := HC4.out
    clear HC4
    by_cases c5 : a1 < 0
    · rw [if_pos c5] at H
      have c5b0 : decide (a1 < 0) = true := decide_eq_true c5
      clear c5
      (first | rw [c5b0] | (simp only [i64_w, i32_w]; rw [c5b0]) | skip)
      have H' := Aside0.mk H
      clear H
      go_wp2
      repeat (go_quiet (fail); try go_wp2)
      go_meet
      case rel => exact ⟨_, (true), (by first | rfl | (simp; done) | (simp [*]; done)), H', ⟨by first | omega | exact Nat.le_refl _⟩, by repeat (first | exact Drawn0.refl _ | apply Drawn0.step)⟩
    · rw [if_neg c5] at H
      have c5b0 : decide (a1 < 0) = false := decide_eq_false c5
      clear c5
      (first | rw [c5b0] | (simp only [i64_w, i32_w]; rw [c5b0]) | skip)
      have H' := Aside0.mk H
      clear H
      go_wp2
      repeat (go_quiet (fail); try go_wp2)
      go_meet
      case rel => exact ⟨_, (decide ((wrap64 (a1 + 2)) > (l0.length : Int))), (by first | rfl | (simp; done) | (simp [*]; done)), H', ⟨by first | omega | exact Nat.le_refl _⟩, by repeat (first | exact Drawn0.refl _ | apply Drawn0.step)⟩
  case rest =>
    clear HC4
    try clear c2
    try clear p2
    try clear c5
    try clear c5b0
    obtain ⟨kq, x17_3, rfl, HA, HJ3, ⟨mc3, rfl⟩⟩ := hcut
    cases kq with
    | zero => exact absurd HA.out (by simp [prebendref03_Word.j0])
    | succ kj3 =>
      have H := HA.out
      clear HA
      simp only [prebendref03_Word.j0] at H
      by_cases c6 : x17_3 = true
      · subst c6
        have H1 : (some ((⟨#[]⟩ : ByteArray), (-1))) = some (r1, r2) := by rw [if_pos rfl] at H; exact H
        clear H
        have H := H1
        clear H1
        simp only [Option.some.injEq, Prod.mk.injEq] at H
        obtain ⟨rfl, rfl⟩ := H
        go_wp2
        repeat (go_quiet (fail); try go_wp2)
        go_ret2
        exact ⟨by first | rfl | (simp; done) | (simp [*]; done), by repeat (first | exact Drawn0.refl _ | apply Drawn0.step)⟩
      · replace c6 := Bool.eq_false_iff.mpr c6
        subst c6
        have H1 : (if 0 ≤ a1 then (if a1 < (l0.length : Int) then (if 0 ≤ (wrap64 (a1 + 1)) then (if (wrap64 (a1 + 1)) < (l0.length : Int) then (if (wrap64 ((wrap64 ((wrap64 (rd l0 a1)) * 256)) + (wrap64 (rd l0 (wrap64 (a1 + 1)))))) > a2 then (some ((⟨#[]⟩ : ByteArray), (-1))) else (if (wrap64 ((wrap64 (a1 + 2)) + (wrap64 ((wrap64 ((wrap64 (rd l0 a1)) * 256)) + (wrap64 (rd l0 (wrap64 (a1 + 1)))))))) > (l0.length : Int) then (some ((⟨#[]⟩ : ByteArray), (-1))) else (if 0 ≤ (wrap64 (a1 + 2)) then (if (wrap64 (a1 + 2)) ≤ (wrap64 ((wrap64 (a1 + 2)) + (wrap64 ((wrap64 ((wrap64 (rd l0 a1)) * 256)) + (wrap64 (rd l0 (wrap64 (a1 + 1)))))))) then (if (wrap64 ((wrap64 (a1 + 2)) + (wrap64 ((wrap64 ((wrap64 (rd l0 a1)) * 256)) + (wrap64 (rd l0 (wrap64 (a1 + 1)))))))) ≤ (l0.length : Int) then (some (strOfNums ((l0.take ((wrap64 ((wrap64 (a1 + 2)) + (wrap64 ((wrap64 ((wrap64 (rd l0 a1)) * 256)) + (wrap64 (rd l0 (wrap64 (a1 + 1)))))))) : Int).toNat).drop ((wrap64 (a1 + 2)) : Int).toNat), wrap64 ((wrap64 (a1 + 2)) + (wrap64 ((wrap64 ((wrap64 (rd l0 a1)) * 256)) + (wrap64 (rd l0 (wrap64 (a1 + 1))))))))) else (none)) else (none)) else (none)))) else (none)) else (none)) else (none)) else (none)) = some (r1, r2) := by rw [if_neg (show ¬ (false = true) by decide)] at H; exact H
        clear H
        have H := H1
        clear H1
        by_cases c7 : 0 ≤ a1
        · rw [if_pos c7] at H
          have c7b0 : decide (0 ≤ a1) = true := decide_eq_true c7
          clear c7
          by_cases c8 : a1 < (l0.length : Int)
          · rw [if_pos c8] at H
            have c8b0 : decide (a1 < (l0.length : Int)) = true := decide_eq_true c8
            clear c8
            obtain ⟨ji9, hji9⟩ : ∃ j_ : Int, (wrap64 (a1 + 1)) = j_ := ⟨_, rfl⟩
            replace H : (if 0 ≤ (ji9) then (if (ji9) < (l0.length : Int) then (if (wrap64 ((wrap64 ((wrap64 (rd l0 a1)) * 256)) + (wrap64 (rd l0 (ji9))))) > a2 then (some ((⟨#[]⟩ : ByteArray), (-1))) else (if (wrap64 ((wrap64 (a1 + 2)) + (wrap64 ((wrap64 ((wrap64 (rd l0 a1)) * 256)) + (wrap64 (rd l0 (ji9))))))) > (l0.length : Int) then (some ((⟨#[]⟩ : ByteArray), (-1))) else (if 0 ≤ (wrap64 (a1 + 2)) then (if (wrap64 (a1 + 2)) ≤ (wrap64 ((wrap64 (a1 + 2)) + (wrap64 ((wrap64 ((wrap64 (rd l0 a1)) * 256)) + (wrap64 (rd l0 (ji9))))))) then (if (wrap64 ((wrap64 (a1 + 2)) + (wrap64 ((wrap64 ((wrap64 (rd l0 a1)) * 256)) + (wrap64 (rd l0 (ji9))))))) ≤ (l0.length : Int) then (some (strOfNums ((l0.take ((wrap64 ((wrap64 (a1 + 2)) + (wrap64 ((wrap64 ((wrap64 (rd l0 a1)) * 256)) + (wrap64 (rd l0 (ji9))))))) : Int).toNat).drop ((wrap64 (a1 + 2)) : Int).toNat), wrap64 ((wrap64 (a1 + 2)) + (wrap64 ((wrap64 ((wrap64 (rd l0 a1)) * 256)) + (wrap64 (rd l0 (ji9)))))))) else (none)) else (none)) else (none)))) else (none)) else (none)) = some (r1, r2) := by first | (rw [hji9] at H; exact H) | (simp only [hji9] at H ⊢; exact H)
            have hji9w : (IntKind.i64.wrap (a1 + 1)) = ji9 := (i64_w _).trans hji9
            by_cases c10 : 0 ≤ (ji9)
            · rw [if_pos c10] at H
              have c10b0 : decide (0 ≤ (ji9)) = true := decide_eq_true c10
              clear c10
              by_cases c11 : (ji9) < (l0.length : Int)
              · rw [if_pos c11] at H
                have c11b0 : decide ((ji9) < (l0.length : Int)) = true := decide_eq_true c11
                clear c11
                by_cases c12 : (wrap64 ((wrap64 ((wrap64 (rd l0 a1)) * 256)) + (wrap64 (rd l0 (ji9))))) > a2
                · rw [if_pos c12] at H
                  have c12b0 : decide (a2 < (wrap64 ((wrap64 ((wrap64 (rd l0 a1)) * 256)) + (wrap64 (rd l0 (ji9)))))) = true := decide_eq_true c12
                  clear c12
                  simp only [Option.some.injEq, Prod.mk.injEq] at H
                  obtain ⟨rfl, rfl⟩ := H
                  have p170 : 0 ≤ (a1 : Int) := of_decide_eq_true (by first | (with_reducible assumption) | assumption)
                  have q170 : a1 < (l0.length : Int) := of_decide_eq_true (by first | (with_reducible assumption) | assumption)
                  obtain ⟨ad170, e170, hx170_0⟩ := Kd.at_int HR0.out a1 p170 q170
                  cases e170
                  replace p170 := eq_true p170
                  replace q170 := eq_true q170
                  have p171 : 0 ≤ ((ji9) : Int) := of_decide_eq_true (by first | (with_reducible assumption) | assumption)
                  have q171 : (ji9) < (l0.length : Int) := of_decide_eq_true (by first | (with_reducible assumption) | assumption)
                  obtain ⟨ad171, e171, hx171_0⟩ := Kd.at_int HR0.out (ji9) p171 q171
                  obtain rfl : ad170 = ad171 := (by injection e171)
                  replace p171 := eq_true p171
                  replace q171 := eq_true q171
                  go_wp2
                  repeat (go_quiet (fail); try go_wp2)
                  go_ret2
                  exact ⟨by first | rfl | (simp; done) | (simp only [← hji9] <;> (first | rfl | simp)) | (simp [*]; done), by repeat (first | exact Drawn0.refl _ | apply Drawn0.step)⟩
                · rw [if_neg c12] at H
                  have c12b0 : decide (a2 < (wrap64 ((wrap64 ((wrap64 (rd l0 a1)) * 256)) + (wrap64 (rd l0 (ji9)))))) = false := decide_eq_false c12
                  clear c12
                  by_cases c13 : (wrap64 ((wrap64 (a1 + 2)) + (wrap64 ((wrap64 ((wrap64 (rd l0 a1)) * 256)) + (wrap64 (rd l0 (ji9))))))) > (l0.length : Int)
                  · rw [if_pos c13] at H
                    have c13b0 : decide ((l0.length : Int) < (wrap64 ((wrap64 (a1 + 2)) + (wrap64 ((wrap64 ((wrap64 (rd l0 a1)) * 256)) + (wrap64 (rd l0 (ji9)))))))) = true := decide_eq_true c13
                    clear c13
                    simp only [Option.some.injEq, Prod.mk.injEq] at H
                    obtain ⟨rfl, rfl⟩ := H
                    have p170 : 0 ≤ (a1 : Int) := of_decide_eq_true (by first | (with_reducible assumption) | assumption)
                    have q170 : a1 < (l0.length : Int) := of_decide_eq_true (by first | (with_reducible assumption) | assumption)
                    obtain ⟨ad170, e170, hx170_0⟩ := Kd.at_int HR0.out a1 p170 q170
                    cases e170
                    replace p170 := eq_true p170
                    replace q170 := eq_true q170
                    have p171 : 0 ≤ ((ji9) : Int) := of_decide_eq_true (by first | (with_reducible assumption) | assumption)
                    have q171 : (ji9) < (l0.length : Int) := of_decide_eq_true (by first | (with_reducible assumption) | assumption)
                    obtain ⟨ad171, e171, hx171_0⟩ := Kd.at_int HR0.out (ji9) p171 q171
                    obtain rfl : ad170 = ad171 := (by injection e171)
                    replace p171 := eq_true p171
                    replace q171 := eq_true q171
                    go_wp2
                    repeat (go_quiet (fail); try go_wp2)
                    go_ret2
                    exact ⟨by first | rfl | (simp; done) | (simp only [← hji9] <;> (first | rfl | simp)) | (simp [*]; done), by repeat (first | exact Drawn0.refl _ | apply Drawn0.step)⟩
                  · rw [if_neg c13] at H
                    have c13b0 : decide ((l0.length : Int) < (wrap64 ((wrap64 (a1 + 2)) + (wrap64 ((wrap64 ((wrap64 (rd l0 a1)) * 256)) + (wrap64 (rd l0 (ji9)))))))) = false := decide_eq_false c13
                    clear c13
                    obtain ⟨ji14, hji14⟩ : ∃ j_ : Int, (wrap64 (a1 + 2)) = j_ := ⟨_, rfl⟩
                    replace H : (if 0 ≤ (ji14) then (if (ji14) ≤ (wrap64 ((ji14) + (wrap64 ((wrap64 ((wrap64 (rd l0 a1)) * 256)) + (wrap64 (rd l0 (ji9))))))) then (if (wrap64 ((ji14) + (wrap64 ((wrap64 ((wrap64 (rd l0 a1)) * 256)) + (wrap64 (rd l0 (ji9))))))) ≤ (l0.length : Int) then (some (strOfNums ((l0.take ((wrap64 ((ji14) + (wrap64 ((wrap64 ((wrap64 (rd l0 a1)) * 256)) + (wrap64 (rd l0 (ji9))))))) : Int).toNat).drop ((ji14) : Int).toNat), wrap64 ((ji14) + (wrap64 ((wrap64 ((wrap64 (rd l0 a1)) * 256)) + (wrap64 (rd l0 (ji9)))))))) else (none)) else (none)) else (none)) = some (r1, r2) := by first | (rw [hji14] at H; exact H) | (simp only [hji14] at H ⊢; exact H)
                    (try rw [hji14] at c13b0)
                    have hji14w : (IntKind.i64.wrap (a1 + 2)) = ji14 := (i64_w _).trans hji14
                    (try simp only [hji14] at hji9)
                    (try simp only [hji14w] at hji9w)
                    by_cases c15 : 0 ≤ (ji14)
                    · rw [if_pos c15] at H
                      have c15b0 := eq_true c15
                      have c15b1 : decide (0 ≤ (ji14)) = true := decide_eq_true c15
                      clear c15
                      by_cases c16 : (ji14) ≤ (wrap64 ((ji14) + (wrap64 ((wrap64 ((wrap64 (rd l0 a1)) * 256)) + (wrap64 (rd l0 (ji9)))))))
                      · rw [if_pos c16] at H
                        have c16b0 := eq_true c16
                        have c16b1 : decide ((ji14) ≤ (wrap64 ((ji14) + (wrap64 ((wrap64 ((wrap64 (rd l0 a1)) * 256)) + (wrap64 (rd l0 (ji9)))))))) = true := decide_eq_true c16
                        by_cases c17 : (wrap64 ((ji14) + (wrap64 ((wrap64 ((wrap64 (rd l0 a1)) * 256)) + (wrap64 (rd l0 (ji9))))))) ≤ (l0.length : Int)
                        · rw [if_pos c17] at H
                          have c17b0 := eq_true c17
                          have c17b1 : decide ((wrap64 ((ji14) + (wrap64 ((wrap64 ((wrap64 (rd l0 a1)) * 256)) + (wrap64 (rd l0 (ji9))))))) ≤ (l0.length : Int)) = true := decide_eq_true c17
                          simp only [Option.some.injEq, Prod.mk.injEq] at H
                          obtain ⟨rfl, rfl⟩ := H
                          have p170 : 0 ≤ (a1 : Int) := of_decide_eq_true (by first | (with_reducible assumption) | assumption)
                          have q170 : a1 < (l0.length : Int) := of_decide_eq_true (by first | (with_reducible assumption) | assumption)
                          obtain ⟨ad170, e170, hx170_0⟩ := Kd.at_int HR0.out a1 p170 q170
                          cases e170
                          replace p170 := eq_true p170
                          replace q170 := eq_true q170
                          have p171 : 0 ≤ ((ji9) : Int) := of_decide_eq_true (by first | (with_reducible assumption) | assumption)
                          have q171 : (ji9) < (l0.length : Int) := of_decide_eq_true (by first | (with_reducible assumption) | assumption)
                          obtain ⟨ad171, e171, hx171_0⟩ := Kd.at_int HR0.out (ji9) p171 q171
                          obtain rfl : ad170 = ad171 := (by injection e171)
                          replace p171 := eq_true p171
                          replace q171 := eq_true q171
                          obtain ⟨i018, hi018, _, hsz18, _⟩ := info_parts info5
                          obtain ⟨A18, hcut18, hA18, hC18⟩ := print_mid_of (P := Try.prog) (Value.int .u8) 0 22 5 .i64 .i64 Try.underlying22 hi018 hsz18 (some ad170) c0 l0 (ji14) (wrap64 ((ji14) + (wrap64 ((wrap64 ((wrap64 (rd l0 a1)) * 256)) + (wrap64 (rd l0 (ji9))))))) (of_decide_eq_true (by first | (with_reducible assumption) | assumption)) (by first | omega | exact of_decide_eq_true (by first | (with_reducible assumption) | assumption)) (of_decide_eq_true (by first | (with_reducible assumption) | assumption)) HC0.out
                          have HR172 := Aside0.mk (Kd.C_of_reads (h1 := fun _ => rfl) (hA18 _ (Kd.reads_of_C HR0.out)))
                          have HC172 := Aside0.mk hC18
                          clear hA18 hC18 hi018 hsz18
                          have hcv19 : ∀ n_ : Nat, (convert 22 9 (.slice A18 ((wrap64 ((ji14) + (wrap64 ((wrap64 ((wrap64 (rd l0 a1)) * 256)) + (wrap64 (rd l0 (ji9))))))).toNat - (ji14).toNat) (c0 - (ji14).toNat))).run Try.prog (w.drewN n_) = .ok (.string (strOfNums ((l0.take (wrap64 ((ji14) + (wrap64 ((wrap64 ((wrap64 (rd l0 a1)) * 256)) + (wrap64 (rd l0 (ji9))))))).toNat).drop (ji14).toNat))) (w.drewN n_) := fun n_ => by
                            have := Kd.C_string (P := Try.prog) (w := w.drewN n_) (A := A18) (c := (c0 - (ji14).toNat)) Try.underlying22 Try.underlying5 Try.underlying9 (Kd.C_drewN HR172.out n_)
                            rwa [List.length_drop, List.length_take, Nat.min_eq_left (Int.toNat_le.2 (of_decide_eq_true c17b1))] at this
                          go_wp2
                          repeat (go_quiet (fail); try go_wp2)
                          go_ret2
                          exact ⟨by first | rfl | (simp; done) | (simp only [← hji9, ← hji14] <;> (first | rfl | simp)) | (simp [*]; done), by repeat (first | exact Drawn0.refl _ | apply Drawn0.step)⟩
                        · rw [if_neg c17] at H
                          exact absurd H (by simp)
                      · rw [if_neg c16] at H
                        exact absurd H (by simp)
                    · rw [if_neg c15] at H
                      exact absurd H (by simp)
              · rw [if_neg c11] at H
                exact absurd H (by simp)
            · rw [if_neg c10] at H
              exact absurd H (by simp)
          · rw [if_neg c8] at H
            exact absurd H (by simp)
        · rw [if_neg c7] at H
          exact absurd H (by simp)

end Go.Proofs.Ytjmkpcnekghmhaa.PAll
end
section
namespace Go.Proofs.Ytjmkpcnekghmhaa.PAll
open Go.RowKit Go.Proofs.YtjmkpcnekghmhaaW.PrintWords Go.Proofs.YtjmkpcnekghmhaaW.PrintLast Go.Proofs.YtjmkpcnekghmhaaW.PrintMore
attribute [local go_sem] max2_int min2_int max_two min_two max_three min_three max_four min_four   -- for this text's walks alone
set_option linter.unusedVariables false
set_option linter.unusedSimpArgs false

/-! ### prebendref03_Number: function 24 -/
mutual
def prebendref03_Number.j0 : Nat → List Int → Int → Bool → Option (Int × Int)
  | 0, _, _, _ => none
  | k + 1, x0, x1, x16 => if x16 = true then (some (0, (-1))) else (prebendref03_Number.l0 k x0 x1 0 0)
def prebendref03_Number.l0 : Nat → List Int → Int → Int → Int → Option (Int × Int)
  | 0, _, _, _, _ => none
  | k + 1, x0, x1, x6, x7 => if x7 < 8 then (if 0 ≤ (wrap64 (x1 + x7)) then (if (wrap64 (x1 + x7)) < (x0.length : Int) then (prebendref03_Number.l0 k x0 x1 (IntKind.u64.wrap ((IntKind.u64.wrap (x6 * 256)) + (IntKind.u64.wrap (rd x0 (wrap64 (x1 + x7)))))) (wrap64 (x7 + 1))) else (none)) else (none)) else (some (wrap64 (x6), wrap64 (x1 + 8)))
end
def prebendref03_Number.f (k : Nat) (l0 : List Int) (a1 : Int) : Option (Int × Int) := if a1 < 0 then (prebendref03_Number.j0 k l0 a1 true) else (prebendref03_Number.j0 k l0 a1 (decide ((wrap64 (a1 + 8)) > (l0.length : Int))))
theorem prebendref03_Number.mono_l : ∀ k, (∀ y0 y1 y2, LeO (prebendref03_Number.j0 k y0 y1 y2) (prebendref03_Number.j0 (k + 1) y0 y1 y2)) ∧ (∀ y0 y1 y2 y3, LeO (prebendref03_Number.l0 k y0 y1 y2 y3) (prebendref03_Number.l0 (k + 1) y0 y1 y2 y3))
  | 0 => ⟨fun _ _ _ r h => by simp [prebendref03_Number.j0] at h, fun _ _ _ _ r h => by simp [prebendref03_Number.l0] at h⟩
  | k + 1 => by
    obtain ⟨ih0, ih1⟩ := prebendref03_Number.mono_l k
    refine ⟨?_, ?_⟩
    · intro y0 y1 y2
      unfold prebendref03_Number.j0
      repeat' first
      | (with_reducible exact ih0 _ _ _)
      | (with_reducible exact ih1 _ _ _ _)
      | (with_reducible exact LeO.refl _)
      | (with_reducible exact LeO.none _)
      | (with_reducible refine LeO.ite ?_ ?_)
      | (with_reducible refine LeO.bind ?_ (fun _ => ?_))
      | exact ih0 _ _ _
      | exact ih1 _ _ _ _
      | exact LeO.none _
      | refine LeO.ite ?_ ?_
      | refine LeO.bind ?_ (fun _ => ?_)
    · intro y0 y1 y2 y3
      unfold prebendref03_Number.l0
      repeat' first
      | (with_reducible exact ih0 _ _ _)
      | (with_reducible exact ih1 _ _ _ _)
      | (with_reducible exact LeO.refl _)
      | (with_reducible exact LeO.none _)
      | (with_reducible refine LeO.ite ?_ ?_)
      | (with_reducible refine LeO.bind ?_ (fun _ => ?_))
      | exact ih0 _ _ _
      | exact ih1 _ _ _ _
      | exact LeO.none _
      | refine LeO.ite ?_ ?_
      | refine LeO.bind ?_ (fun _ => ?_)
theorem prebendref03_Number.mono : ∀ a0 a1 k, LeO (prebendref03_Number.f k a0 a1) (prebendref03_Number.f (k + 1) a0 a1) := by
  intro a0 a1 k
  obtain ⟨ih0, ih1⟩ := prebendref03_Number.mono_l k
  unfold prebendref03_Number.f
  repeat' first
      | (with_reducible exact ih0 _ _ _)
      | (with_reducible exact ih1 _ _ _ _)
      | (with_reducible exact LeO.refl _)
      | (with_reducible exact LeO.none _)
      | (with_reducible refine LeO.ite ?_ ?_)
      | (with_reducible refine LeO.bind ?_ (fun _ => ?_))
      | exact ih0 _ _ _
      | exact ih1 _ _ _ _
      | exact LeO.none _
      | refine LeO.ite ?_ ?_
      | refine LeO.bind ?_ (fun _ => ?_)
set_option maxHeartbeats 8000000 in
set_option maxRecDepth 100000 in
theorem prebendref03_Number.calls (k : Nat) (A0 : Option Addr) (c0 : Nat) (l0 : List Int) (a1 : Int) (r1 : Int) (r2 : Int) (w : World) (hr0 : Kd.C (Kd.int .u8) w A0 l0.length l0) (hc0 : l0.length ≤ c0) (h : prebendref03_Number.f k l0 a1 = some (r1, r2)) :
    Calls Try.prog 24 #[.slice A0 l0.length c0, .int .i64 a1] w fun e w' => e = .returned (.tuple #[.int .i64 r1, .int .i64 r2]) ∧ Drawn0 w w' := by
  have HR0 := Aside0.mk hr0
  have HC0 := Aside0.mk hc0
  clear hr0 hc0
  have H : (if a1 < 0 then (prebendref03_Number.j0 k l0 a1 true) else (prebendref03_Number.j0 k l0 a1 (decide ((wrap64 (a1 + 8)) > (l0.length : Int))))) = some (r1, r2) := h
  clear h
  have HC3 := Aside0.mk H
  clear H
  go_enter Try.func24, Try.ntmps24
  go_upto_region 1 with (fail)
  go_cut [16] (fun v16 wc => ∃ (kq : Nat) (x16_2 : Bool), v16 = .bool x16_2 ∧ Aside0 (prebendref03_Number.j0 kq l0 a1 x16_2 = some (r1, r2)) ∧ Aside0 (kq ≤ k) ∧ Drawn0 w wc)
  case first =>
    have H := HC3.out
    clear HC3
    by_cases c4 : a1 < 0
    · rw [if_pos c4] at H
      have c4b0 : decide (a1 < 0) = true := decide_eq_true c4
      clear c4
      (first | rw [c4b0] | (simp only [i64_w, i32_w]; rw [c4b0]) | skip)
      have H' := Aside0.mk H
      clear H
      go_wp2
      go_meet
      case rel => exact ⟨_, (true), (by first | rfl | (simp; done) | (simp [*]; done)), H', ⟨by first | omega | exact Nat.le_refl _⟩, by repeat (first | exact Drawn0.refl _ | apply Drawn0.step)⟩
    · rw [if_neg c4] at H
      have c4b0 : decide (a1 < 0) = false := decide_eq_false c4
      clear c4
      (first | rw [c4b0] | (simp only [i64_w, i32_w]; rw [c4b0]) | skip)
      have H' := Aside0.mk H
      clear H
      go_wp2
      go_meet
      case rel => exact ⟨_, (decide ((wrap64 (a1 + 8)) > (l0.length : Int))), (by first | rfl | (simp; done) | (simp [*]; done)), H', ⟨by first | omega | exact Nat.le_refl _⟩, by repeat (first | exact Drawn0.refl _ | apply Drawn0.step)⟩
  case rest =>
    clear HC3
    try clear c2
    try clear p2
    try clear c4
    try clear c4b0
    obtain ⟨kq, x16_2, rfl, HA, HJ2, ⟨mc2, rfl⟩⟩ := hcut
    cases kq with
    | zero => exact absurd HA.out (by simp [prebendref03_Number.j0])
    | succ kj2 =>
      have H := HA.out
      clear HA
      simp only [prebendref03_Number.j0] at H
      by_cases c5 : x16_2 = true
      · subst c5
        have H1 : (some (0, (-1))) = some (r1, r2) := by rw [if_pos rfl] at H; exact H
        clear H
        have H := H1
        clear H1
        simp only [Option.some.injEq, Prod.mk.injEq] at H
        obtain ⟨rfl, rfl⟩ := H
        go_wp2
        go_ret2
        exact ⟨by first | rfl | (simp; done) | (simp [*]; done), by repeat (first | exact Drawn0.refl _ | apply Drawn0.step)⟩
      · replace c5 := Bool.eq_false_iff.mpr c5
        subst c5
        have H1 : (prebendref03_Number.l0 kj2 l0 a1 0 0) = some (r1, r2) := by rw [if_neg (show ¬ (false = true) by decide)] at H; exact H
        clear H
        have H := H1
        clear H1
        have H' := Aside0.mk H
        clear H
        go_wp2
        go_loopg [6, 7] kj2 (fun kq v6 v7 w' => ∃ (x6_2 : Int) (x7_2 : Int), v6 = .int .u64 x6_2 ∧ v7 = .int .i64 x7_2 ∧ Aside0 (prebendref03_Number.l0 kq l0 a1 x6_2 x7_2 = some (r1, r2)) ∧ Aside0 (kq ≤ kj2) ∧ Drawn0 w w')
        case atStart => exact ⟨(0), (0), (by first | rfl | (simp; done) | (simp [*]; done)), (by first | rfl | (simp; done) | (simp [*]; done)), H', ⟨Nat.le_refl _⟩, by repeat (first | exact Drawn0.refl _ | apply Drawn0.step)⟩
        case round =>
          clear H'
          try clear c2
          try clear p2
          try clear c4
          try clear c4b0
          try clear c5
          try clear p2
          obtain ⟨x6_2, x7_2, rfl, rfl, HA, HK2, ⟨m2, rfl⟩⟩ := hrel
          cases gk with
          | zero => exact absurd HA.out (by simp [prebendref03_Number.l0])
          | succ k2 =>
            have H := HA.out
            clear HA
            simp only [prebendref03_Number.l0] at H
            by_cases c6 : x7_2 < 8
            · rw [if_pos c6] at H
              have c6b0 : decide (x7_2 < 8) = true := decide_eq_true c6
              clear c6
              obtain ⟨ji7, hji7⟩ : ∃ j_ : Int, (wrap64 (a1 + x7_2)) = j_ := ⟨_, rfl⟩
              replace H : (if 0 ≤ (ji7) then (if (ji7) < (l0.length : Int) then (prebendref03_Number.l0 k2 l0 a1 (IntKind.u64.wrap ((IntKind.u64.wrap (x6_2 * 256)) + (IntKind.u64.wrap (rd l0 (ji7))))) (wrap64 (x7_2 + 1))) else (none)) else (none)) = some (r1, r2) := by first | (rw [hji7] at H; exact H) | (simp only [hji7] at H ⊢; exact H)
              have hji7w : (IntKind.i64.wrap (a1 + x7_2)) = ji7 := (i64_w _).trans hji7
              by_cases c8 : 0 ≤ (ji7)
              · rw [if_pos c8] at H
                have c8b0 : decide (0 ≤ (ji7)) = true := decide_eq_true c8
                clear c8
                by_cases c9 : (ji7) < (l0.length : Int)
                · rw [if_pos c9] at H
                  have c9b0 : decide ((ji7) < (l0.length : Int)) = true := decide_eq_true c9
                  clear c9
                  have H' := Aside0.mk H
                  clear H
                  have p143 : 0 ≤ ((ji7) : Int) := of_decide_eq_true (by first | (with_reducible assumption) | assumption)
                  have q143 : (ji7) < (l0.length : Int) := of_decide_eq_true (by first | (with_reducible assumption) | assumption)
                  obtain ⟨ad143, e143, hx143_0⟩ := Kd.at_int HR0.out (ji7) p143 q143
                  cases e143
                  replace p143 := eq_true p143
                  replace q143 := eq_true q143
                  go_wp2
                  go_roundg k2
                  case measure => have := HJ2.out; have := HK2.out; omega
                  case rel => exact ⟨(IntKind.u64.wrap ((IntKind.u64.wrap (x6_2 * 256)) + (IntKind.u64.wrap (rd l0 (ji7))))), (wrap64 (x7_2 + 1)), (by first | rfl | (simp; done) | (simp only [← hji7] <;> (first | rfl | simp)) | (simp [*]; done)), (by first | rfl | (simp; done) | (simp [*]; done)), H', ⟨by have := HJ2.out; have := HK2.out; omega⟩, by repeat (first | exact Drawn0.refl _ | apply Drawn0.step)⟩
                · rw [if_neg c9] at H
                  exact absurd H (by simp)
              · rw [if_neg c8] at H
                exact absurd H (by simp)
            · rw [if_neg c6] at H
              have c6b0 : decide (x7_2 < 8) = false := decide_eq_false c6
              clear c6
              simp only [Option.some.injEq, Prod.mk.injEq] at H
              obtain ⟨rfl, rfl⟩ := H
              go_wp2
              go_ret2
              exact ⟨by first | rfl | (simp; done) | (simp [*]; done), by repeat (first | exact Drawn0.refl _ | apply Drawn0.step)⟩

end Go.Proofs.Ytjmkpcnekghmhaa.PAll
end
section
namespace Go.Proofs.Ytjmkpcnekghmhaa.PAll
open Go.RowKit Go.Proofs.YtjmkpcnekghmhaaW.PrintWords Go.Proofs.YtjmkpcnekghmhaaW.PrintLast Go.Proofs.YtjmkpcnekghmhaaW.PrintMore
attribute [local go_sem] max2_int min2_int max_two min_two max_three min_three max_four min_four   -- for this text's walks alone
set_option linter.unusedVariables false
set_option linter.unusedSimpArgs false

/-! ### prebendref12_numbers: function 47 -/
def prebendref12_numbers.l0 : Nat → List Int → Int → Int → List Int → Int → Option (List Int × Int)
  | 0, _, _, _, _, _ => none
  | k + 1, x0, x1, x2, x8, x9 => if x9 < x2 then ((prebendref03_Number.f k x0 x1).bind fun bt283 => (if bt283.2 < 0 then (some (([] : List Int), (-1))) else (if x8.length < 17592186044416 then (prebendref12_numbers.l0 k x0 bt283.2 x2 (x8 ++ [bt283.1]) (wrap64 (x9 + 1))) else (none)))) else (some (x8, x1))
def prebendref12_numbers.f (k : Nat) (l0 : List Int) (a1 : Int) (a2 : Int) : Option (List Int × Int) := prebendref12_numbers.l0 k l0 a1 a2 (([] : List Int)) 0
theorem prebendref12_numbers.mono_l : ∀ k, (∀ y0 y1 y2 y3 y4, LeO (prebendref12_numbers.l0 k y0 y1 y2 y3 y4) (prebendref12_numbers.l0 (k + 1) y0 y1 y2 y3 y4))
  | 0 => fun _ _ _ _ _ r h => by simp [prebendref12_numbers.l0] at h
  | k + 1 => by
    have ih0 := prebendref12_numbers.mono_l k
    · intro y0 y1 y2 y3 y4
      unfold prebendref12_numbers.l0
      repeat' first
      | (with_reducible exact ih0 _ _ _ _ _)
      | (with_reducible exact prebendref03_Number.mono _ _ _)
      | (with_reducible exact LeO.refl _)
      | (with_reducible exact LeO.none _)
      | (with_reducible refine LeO.ite ?_ ?_)
      | (with_reducible refine LeO.bind ?_ (fun _ => ?_))
      | exact ih0 _ _ _ _ _
      | exact prebendref03_Number.mono _ _ _
      | exact LeO.none _
      | refine LeO.ite ?_ ?_
      | refine LeO.bind ?_ (fun _ => ?_)
theorem prebendref12_numbers.mono : ∀ a0 a1 a2 k, LeO (prebendref12_numbers.f k a0 a1 a2) (prebendref12_numbers.f (k + 1) a0 a1 a2) := by
  intro a0 a1 a2 k
  have ih0 := prebendref12_numbers.mono_l k
  unfold prebendref12_numbers.f
  repeat' first
      | (with_reducible exact ih0 _ _ _ _ _)
      | (with_reducible exact prebendref03_Number.mono _ _ _)
      | (with_reducible exact LeO.refl _)
      | (with_reducible exact LeO.none _)
      | (with_reducible refine LeO.ite ?_ ?_)
      | (with_reducible refine LeO.bind ?_ (fun _ => ?_))
      | exact ih0 _ _ _ _ _
      | exact prebendref03_Number.mono _ _ _
      | exact LeO.none _
      | refine LeO.ite ?_ ?_
      | refine LeO.bind ?_ (fun _ => ?_)
set_option maxHeartbeats 8000000 in
set_option maxRecDepth 100000 in
theorem prebendref12_numbers.calls (k : Nat) (A0 : Option Addr) (c0 : Nat) (l0 : List Int) (a1 : Int) (a2 : Int) (r1 : List Int) (r2 : Int) (w : World) (hr0 : Kd.C (Kd.int .u8) w A0 l0.length l0) (hc0 : l0.length ≤ c0) (h : prebendref12_numbers.f k l0 a1 a2 = some (r1, r2)) :
    Calls Try.prog 47 #[.slice A0 l0.length c0, .int .i64 a1, .int .i64 a2] w fun e w' => ∃ v0_ : Value, e = .returned (.tuple #[v0_, .int .i64 r2]) ∧ Kd.R (Kd.int .i64) 3 w' w.heap.size (fun _ => True) v0_ r1 ∧ Below w.heap.size w w' := by
  have HR0 := Aside0.mk hr0
  have HC0 := Aside0.mk hc0
  clear hr0 hc0
  have HB := Aside0.mk (Below.refl w.heap.size w)
  have H : (prebendref12_numbers.l0 k l0 a1 a2 (([] : List Int)) 0) = some (r1, r2) := h
  clear h
  obtain ⟨y280, hy280⟩ : ∃ y_ : List Int, y_ = (([] : List Int)) := ⟨_, rfl⟩
  replace H : (prebendref12_numbers.l0 k l0 a1 a2 y280 0) = some (r1, r2) := by first | (rw [hy280]; with_reducible exact H) | (have H2_ := (Option.bind_some _ _).symm.trans H; rw [hy280]; with_reducible exact H2_) | (have H2_ := (Option.bind_some _ _).symm.trans H; with_reducible exact H2_) | with_reducible exact H | (rw [hy280]; exact H) | exact H
  have Ny280 := Aside0.mk hy280
  clear hy280
  have H' := Aside0.mk H
  clear H
  go_enter Try.func47, Try.ntmps47
  go_wp2_with (first | ((with_reducible refine gate_dst (N := 12) rfl ?_); refine Kd.R_lit (Kd.int .i64) _ 3 ?hg (N := 12) ?hd (xs := ([] : List Int)) (inner := []) (ok := fun _ => True) (okp := fun _ => True) ?hr ?hp (fun _ hk => hk) trivial (Below.refl _ _) (Nat.le_refl _) (by simp) ?_; (case hd => rfl); (case hg => rfl); (case hr => first | (go_simp; done) | (go_simp; rfl)); (case hp => exact (Reps.none _ _)); intro v281 w4 ho5 hb hg_ hnew_; clear hg_ hnew_; (first | rw [← Ny280.out] at ho5 | (simp only [Int.reduceToNat] at ho5; rw [← Ny280.out] at ho5)); have n0_ := Aside0.mk (Kd.R_lower ho5 (below_size (by repeat (first | (with_reducible first | exact HB.out | apply below_alloc | apply pw_below_drewN | apply below_drew1) | exact HB.out)))); have n1_ := Aside0.mk (below_step (by repeat (first | (with_reducible first | exact HB.out | apply below_alloc | apply pw_below_drewN | apply below_drew1) | exact HB.out)) hb); clear HB; have HO282 := n0_; have HB := n1_; clear n0_ n1_; clear hb ho5))
  go_loopg [1, 8, 9] k (fun kq v1 v8 v9 w' => ∃ (x1_1 : Int) (x8_1 : List Int) (x9_1 : Int), v1 = .int .i64 x1_1 ∧ v9 = .int .i64 x9_1 ∧ Aside0 (prebendref12_numbers.l0 kq l0 x1_1 a2 x8_1 x9_1 = some (r1, r2)) ∧ Aside0 (kq ≤ k) ∧ Aside0 (Kd.R (Kd.int .i64) 3 w' w.heap.size (fun _ => True) v8 x8_1) ∧ Aside0 (Below w.heap.size w w'))
  case atStart => exact ⟨(a1), (y280), (0), (by first | rfl | (simp; done) | (simp [*]; done)), (by first | rfl | (simp; done) | (simp [*]; done)), H', ⟨Nat.le_refl _⟩, ⟨by (with_reducible repeat (first | apply Kd.R_alloc | apply Kd.R_drewN | apply Kd.R_drew)); exact HO282.out⟩, ⟨by repeat (first | (with_reducible first | exact HB.out | apply below_alloc | apply pw_below_drewN | apply below_drew1) | exact HB.out)⟩⟩
  case round =>
    clear H'
    try clear p2
    try clear c4
    obtain ⟨x1_1, x8_1, x9_1, rfl, rfl, HA, HK1, HO_8, HB⟩ := hrel
    cases gk with
    | zero => exact absurd HA.out (by simp [prebendref12_numbers.l0])
    | succ k1 =>
      have H := HA.out
      clear HA
      simp only [prebendref12_numbers.l0] at H
      by_cases c6 : x9_1 < a2
      · rw [if_pos c6] at H
        have c6b0 : decide (x9_1 < a2) = true := decide_eq_true c6
        clear c6
        replace H := Option.bind_eq_some_iff.mp H
        obtain ⟨⟨t283, t284⟩, A70, H⟩ := H
        replace H : (if t284 < 0 then (some (([] : List Int), (-1))) else (if x8_1.length < 17592186044416 then (prebendref12_numbers.l0 k1 l0 t284 a2 (x8_1 ++ [t283]) (wrap64 (x9_1 + 1))) else (none))) = some (r1, r2) := H
        have A7 := Aside0.mk A70
        clear A70
        by_cases c8 : t284 < 0
        · rw [if_pos c8] at H
          have c8b0 : decide (t284 < 0) = true := decide_eq_true c8
          clear c8
          simp only [Option.some.injEq, Prod.mk.injEq] at H
          obtain ⟨rfl, rfl⟩ := H
          go_wp2_with (first | ((with_reducible refine gate_callee (f := 24) rfl ?_); refine goesL_ (some 21) rfl rfl Try.func24 (by kernel_rfl) rfl #[.slice A0 l0.length c0, .int .i64 x1_1] rfl (by (try simp only [List.map_toArray, List.map_cons, List.map_nil]); first | done | rfl | (simp only [List.length_drop, List.length_take]; rfl)) ?_; (with_reducible refine (prebendref03_Number.calls k1 _ _ l0 x1_1 t283 t284 _ ?side1 ?side2 A7.out).mono ?_); (case side1 => repeat (first | exact (Kd.C_below HR0.out HB.out) | (with_reducible refine Kd.C_alloc ?_ _) | (with_reducible refine Kd.C_drewN ?_ _) | (with_reducible refine Kd.C_drew ?_))); (case side2 => exact HC0.out); rintro e w' ⟨rfl, ⟨nd, rfl⟩⟩; refine ⟨_, rfl, ?_⟩))
          go_ret2
          exact ⟨_, by first | rfl | (simp [errW_none, errW_some] <;> rfl) | (simp [*, errW_none, errW_some] <;> rfl), by first | exact Kd.R_nil _ _ _ _ _ | exact Kd.N_nil _ _ _ _ _ | exact Kd.V_nil _ _ _ _ _ | exact Kd.Q_nil _ _ _ _ _ | exact Kd.S_nil _ _ _ _ _, by repeat (first | (with_reducible first | exact HB.out | apply below_alloc | apply pw_below_drewN | apply below_drew1) | exact HB.out)⟩
        · rw [if_neg c8] at H
          have c8b0 : decide (t284 < 0) = false := decide_eq_false c8
          clear c8
          by_cases c9 : x8_1.length < 17592186044416
          · rw [if_pos c9] at H
            have LMc9 := Aside0.mk c9
            clear c9
            obtain ⟨y285, hy285⟩ : ∃ y_ : List Int, y_ = (x8_1 ++ [t283]) := ⟨_, rfl⟩
            replace H : (prebendref12_numbers.l0 k1 l0 t284 a2 y285 (wrap64 (x9_1 + 1))) = some (r1, r2) := by first | (rw [hy285]; with_reducible exact H) | (have H2_ := (Option.bind_some _ _).symm.trans H; rw [hy285]; with_reducible exact H2_) | (have H2_ := (Option.bind_some _ _).symm.trans H; with_reducible exact H2_) | with_reducible exact H | (rw [hy285]; exact H) | exact H
            have Ny285 := Aside0.mk hy285
            clear hy285
            have H' := Aside0.mk H
            clear H
            go_wp2_with (first | ((with_reducible refine gate_callee (f := 24) rfl ?_); refine goesL_ (some 21) rfl rfl Try.func24 (by kernel_rfl) rfl #[.slice A0 l0.length c0, .int .i64 x1_1] rfl (by (try simp only [List.map_toArray, List.map_cons, List.map_nil]); first | done | rfl | (simp only [List.length_drop, List.length_take]; rfl)) ?_; (with_reducible refine (prebendref03_Number.calls k1 _ _ l0 x1_1 t283 t284 _ ?side1 ?side2 A7.out).mono ?_); (case side1 => repeat (first | exact (Kd.C_below HR0.out HB.out) | (with_reducible refine Kd.C_alloc ?_ _) | (with_reducible refine Kd.C_drewN ?_ _) | (with_reducible refine Kd.C_drew ?_))); (case side2 => exact HC0.out); rintro e w' ⟨rfl, ⟨nd, rfl⟩⟩; refine ⟨_, rfl, ?_⟩) | ((with_reducible refine gate_builtin (b := .append) (xs := #[.tmp 26, .tmp 28]) rfl ?_); at_builtin; refine Kd.R_append (Kd.int .i64) (w0 := w) w.heap.size rfl (.tmp 26) (.tmp 28) 42 3 (.int .i64 0) 8 rfl Try.underlying42 info3 rfl (by decide) (by omega) u8 x8_1 t283 [.int .i64 t283] (fun _ => True) (fun _ => False) rfl rfl ?aP (fun _ hk => hk.elim) ?aF ?aO ?aB ?aS ?aL ?_; (case aP => exact rfl); (case aB => exact (by repeat (first | (with_reducible first | exact HB.out | apply below_alloc | apply pw_below_drewN | apply below_drew1) | exact HB.out))); (case aF => exact (fun _ _ => trivial)); (case aO => exact (by (with_reducible repeat (first | apply Kd.R_alloc | apply Kd.R_drewN | apply Kd.R_drew)); exact HO_8.out)); (case aS => exact (below_size (by repeat (first | (with_reducible first | exact HB.out | apply below_alloc | apply pw_below_drewN | apply below_drew1) | exact HB.out)))); (case aL => have := LMc9.out; omega); intro v286 w10 ho hb hg hat; rw [← Ny285.out] at ho; have n0_ := Aside0.mk (hb); have n1_ := Aside0.mk (ho); clear HB; clear HO_8; have HB := n0_; have HO287 := n1_; clear n0_ n1_; clear ho hb hg hat))
            go_roundg k1
            case measure => have := HK1.out; omega
            case rel => exact ⟨(t284), (y285), (wrap64 (x9_1 + 1)), (by first | rfl | (simp; done) | (simp [*]; done)), (by first | rfl | (simp; done) | (simp [*]; done)), H', ⟨by have := HK1.out; omega⟩, ⟨by (with_reducible repeat (first | apply Kd.R_alloc | apply Kd.R_drewN | apply Kd.R_drew)); exact HO287.out⟩, ⟨by repeat (first | (with_reducible first | exact HB.out | apply below_alloc | apply pw_below_drewN | apply below_drew1) | exact HB.out)⟩⟩
          · rw [if_neg c9] at H
            exact absurd H (by simp)
      · rw [if_neg c6] at H
        have c6b0 : decide (x9_1 < a2) = false := decide_eq_false c6
        clear c6
        simp only [Option.some.injEq, Prod.mk.injEq] at H
        obtain ⟨rfl, rfl⟩ := H
        go_wp2
        go_ret2
        exact ⟨_, by first | rfl | (simp [errW_none, errW_some] <;> rfl) | (simp [*, errW_none, errW_some] <;> rfl), by (with_reducible repeat (first | apply Kd.R_alloc | apply Kd.R_drewN | apply Kd.R_drew)); exact HO_8.out, by repeat (first | (with_reducible first | exact HB.out | apply below_alloc | apply pw_below_drewN | apply below_drew1) | exact HB.out)⟩

end Go.Proofs.Ytjmkpcnekghmhaa.PAll
end
section
namespace Go.Proofs.Ytjmkpcnekghmhaa.PAll
open Go.RowKit Go.Proofs.YtjmkpcnekghmhaaW.PrintWords Go.Proofs.YtjmkpcnekghmhaaW.PrintLast Go.Proofs.YtjmkpcnekghmhaaW.PrintMore
attribute [local go_sem] max2_int min2_int max_two min_two max_three min_three max_four min_four   -- for this text's walks alone
set_option linter.unusedVariables false
set_option linter.unusedSimpArgs false

/-! ### prebendref12_Decode: function 31 -/
mutual
def prebendref12_Decode.j0 : Nat → List Int → Int → Int → Bool → Int → Int → Int → ByteArray → ByteArray → Option (Int × Int × Int × ByteArray × ByteArray × List Int × (List (S87)) × Int)
  | 0, _, _, _, _, _, _, _, _, _ => none
  | k + 1, x0, x5, x7, x57, x297000, x297001, x297002, x297003, x297004 => if x57 = true then (some (0, 0, 0, (⟨#[]⟩ : ByteArray), (⟨#[]⟩ : ByteArray), ([] : List Int), ([] : List (S87)), 3)) else ((prebendref12_numbers.f k x0 x5 x7).bind fun bt303 => (if bt303.2 < 0 then (some (0, 0, 0, (⟨#[]⟩ : ByteArray), (⟨#[]⟩ : ByteArray), ([] : List Int), ([] : List (S87)), 3)) else ((prebendref03_Number.f k x0 bt303.2).bind fun bt307 => (if bt307.2 < 0 then (prebendref12_Decode.j1 k x0 bt307.2 bt307.1 true x297000 x297001 x297002 x297003 x297004 bt303.1) else (if bt307.1 < 0 then (prebendref12_Decode.j1 k x0 bt307.2 bt307.1 true x297000 x297001 x297002 x297003 x297004 bt303.1) else (prebendref12_Decode.j1 k x0 bt307.2 bt307.1 (decide (bt307.1 > 64)) x297000 x297001 x297002 x297003 x297004 bt303.1))))))
def prebendref12_Decode.j1 : Nat → List Int → Int → Int → Bool → Int → Int → Int → ByteArray → ByteArray → List Int → Option (Int × Int × Int × ByteArray × ByteArray × List Int × (List (S87)) × Int)
  | 0, _, _, _, _, _, _, _, _, _, _ => none
  | k + 1, x0, x5, x7, x85, x297000, x297001, x297002, x297003, x297004, x297005 => if x85 = true then (some (0, 0, 0, (⟨#[]⟩ : ByteArray), (⟨#[]⟩ : ByteArray), ([] : List Int), ([] : List (S87)), 3)) else ((prebendref12_numbers.f k x0 x5 (wrap64 (2 * x7))).bind fun bt309 => (if bt309.2 = (x0.length : Int) then (prebendref12_Decode.l0 k x7 bt309.1 0 x297000 x297001 x297002 x297003 x297004 x297005 ([] : List (S87))) else (some (0, 0, 0, (⟨#[]⟩ : ByteArray), (⟨#[]⟩ : ByteArray), ([] : List Int), ([] : List (S87)), 3))))
def prebendref12_Decode.l0 : Nat → Int → List Int → Int → Int → Int → Int → ByteArray → ByteArray → List Int → List (S87) → Option (Int × Int × Int × ByteArray × ByteArray × List Int × (List (S87)) × Int)
  | 0, _, _, _, _, _, _, _, _, _, _ => none
  | k + 1, x7, x8, x9, x297000, x297001, x297002, x297003, x297004, x297005, x297006 => if x9 < x7 then (if 0 ≤ (wrap64 (2 * x9)) then (if (wrap64 (2 * x9)) < (x8.length : Int) then (if 0 ≤ (wrap64 ((wrap64 (2 * x9)) + 1)) then (if (wrap64 ((wrap64 (2 * x9)) + 1)) < (x8.length : Int) then (if x297006.length < 8796093022208 then (prebendref12_Decode.l0 k x7 x8 (wrap64 (x9 + 1)) x297000 x297001 x297002 x297003 x297004 x297005 (x297006 ++ [(⟨rd x8 (wrap64 (2 * x9)), rd x8 (wrap64 ((wrap64 (2 * x9)) + 1))⟩ : S87)])) else (none)) else (none)) else (none)) else (none)) else (none)) else (some (x297000, x297001, x297002, x297003, x297004, x297005, x297006, 0))
end
def prebendref12_Decode.f (k : Nat) (l0 : List Int) : Option (Int × Int × Int × ByteArray × ByteArray × List Int × (List (S87)) × Int) := (prebendref12_numbers.f k l0 0 3).bind fun bt289 => (if bt289.2 < 0 then (some (0, 0, 0, (⟨#[]⟩ : ByteArray), (⟨#[]⟩ : ByteArray), ([] : List Int), ([] : List (S87)), 3)) else (if 0 < (bt289.1.length : Int) then (if 1 < (bt289.1.length : Int) then (if 2 < (bt289.1.length : Int) then ((prebendref03_Word.f k l0 bt289.2 16).bind fun bt297 => ((prebendref03_Word.f k l0 bt297.2 16).bind fun bt299 => ((prebendref03_Number.f k l0 bt299.2).bind fun bt301 => (if bt301.2 < 0 then (prebendref12_Decode.j0 k l0 bt301.2 bt301.1 true (rd bt289.1 0) (rd bt289.1 1) (rd bt289.1 2) bt297.1 bt299.1) else (if bt301.1 < 0 then (prebendref12_Decode.j0 k l0 bt301.2 bt301.1 true (rd bt289.1 0) (rd bt289.1 1) (rd bt289.1 2) bt297.1 bt299.1) else (prebendref12_Decode.j0 k l0 bt301.2 bt301.1 (decide (bt301.1 > 8)) (rd bt289.1 0) (rd bt289.1 1) (rd bt289.1 2) bt297.1 bt299.1)))))) else (none)) else (none)) else (none)))
theorem prebendref12_Decode.mono_l : ∀ k, (∀ y0 y1 y2 y3 y4 y5 y6 y7 y8, LeO (prebendref12_Decode.j0 k y0 y1 y2 y3 y4 y5 y6 y7 y8) (prebendref12_Decode.j0 (k + 1) y0 y1 y2 y3 y4 y5 y6 y7 y8)) ∧ (∀ y0 y1 y2 y3 y4 y5 y6 y7 y8 y9, LeO (prebendref12_Decode.j1 k y0 y1 y2 y3 y4 y5 y6 y7 y8 y9) (prebendref12_Decode.j1 (k + 1) y0 y1 y2 y3 y4 y5 y6 y7 y8 y9)) ∧ (∀ y0 y1 y2 y3 y4 y5 y6 y7 y8 y9, LeO (prebendref12_Decode.l0 k y0 y1 y2 y3 y4 y5 y6 y7 y8 y9) (prebendref12_Decode.l0 (k + 1) y0 y1 y2 y3 y4 y5 y6 y7 y8 y9))
  | 0 => ⟨fun _ _ _ _ _ _ _ _ _ r h => by simp [prebendref12_Decode.j0] at h, fun _ _ _ _ _ _ _ _ _ _ r h => by simp [prebendref12_Decode.j1] at h, fun _ _ _ _ _ _ _ _ _ _ r h => by simp [prebendref12_Decode.l0] at h⟩
  | k + 1 => by
    obtain ⟨ih0, ih1, ih2⟩ := prebendref12_Decode.mono_l k
    refine ⟨?_, ?_, ?_⟩
    · intro y0 y1 y2 y3 y4 y5 y6 y7 y8
      unfold prebendref12_Decode.j0
      repeat' first
      | (with_reducible exact ih0 _ _ _ _ _ _ _ _ _)
      | (with_reducible exact ih1 _ _ _ _ _ _ _ _ _ _)
      | (with_reducible exact ih2 _ _ _ _ _ _ _ _ _ _)
      | (with_reducible exact prebendref03_Number.mono _ _ _)
      | (with_reducible exact prebendref03_Word.mono _ _ _ _)
      | (with_reducible exact prebendref12_numbers.mono _ _ _ _)
      | (with_reducible exact LeO.refl _)
      | (with_reducible exact LeO.none _)
      | (with_reducible refine LeO.ite ?_ ?_)
      | (with_reducible refine LeO.bind ?_ (fun _ => ?_))
      | exact ih0 _ _ _ _ _ _ _ _ _
      | exact ih1 _ _ _ _ _ _ _ _ _ _
      | exact ih2 _ _ _ _ _ _ _ _ _ _
      | exact prebendref03_Number.mono _ _ _
      | exact prebendref03_Word.mono _ _ _ _
      | exact prebendref12_numbers.mono _ _ _ _
      | exact LeO.none _
      | refine LeO.ite ?_ ?_
      | refine LeO.bind ?_ (fun _ => ?_)
    · intro y0 y1 y2 y3 y4 y5 y6 y7 y8 y9
      unfold prebendref12_Decode.j1
      repeat' first
      | (with_reducible exact ih0 _ _ _ _ _ _ _ _ _)
      | (with_reducible exact ih1 _ _ _ _ _ _ _ _ _ _)
      | (with_reducible exact ih2 _ _ _ _ _ _ _ _ _ _)
      | (with_reducible exact prebendref03_Number.mono _ _ _)
      | (with_reducible exact prebendref03_Word.mono _ _ _ _)
      | (with_reducible exact prebendref12_numbers.mono _ _ _ _)
      | (with_reducible exact LeO.refl _)
      | (with_reducible exact LeO.none _)
      | (with_reducible refine LeO.ite ?_ ?_)
      | (with_reducible refine LeO.bind ?_ (fun _ => ?_))
      | exact ih0 _ _ _ _ _ _ _ _ _
      | exact ih1 _ _ _ _ _ _ _ _ _ _
      | exact ih2 _ _ _ _ _ _ _ _ _ _
      | exact prebendref03_Number.mono _ _ _
      | exact prebendref03_Word.mono _ _ _ _
      | exact prebendref12_numbers.mono _ _ _ _
      | exact LeO.none _
      | refine LeO.ite ?_ ?_
      | refine LeO.bind ?_ (fun _ => ?_)
    · intro y0 y1 y2 y3 y4 y5 y6 y7 y8 y9
      unfold prebendref12_Decode.l0
      repeat' first
      | (with_reducible exact ih0 _ _ _ _ _ _ _ _ _)
      | (with_reducible exact ih1 _ _ _ _ _ _ _ _ _ _)
      | (with_reducible exact ih2 _ _ _ _ _ _ _ _ _ _)
      | (with_reducible exact prebendref03_Number.mono _ _ _)
      | (with_reducible exact prebendref03_Word.mono _ _ _ _)
      | (with_reducible exact prebendref12_numbers.mono _ _ _ _)
      | (with_reducible exact LeO.refl _)
      | (with_reducible exact LeO.none _)
      | (with_reducible refine LeO.ite ?_ ?_)
      | (with_reducible refine LeO.bind ?_ (fun _ => ?_))
      | exact ih0 _ _ _ _ _ _ _ _ _
      | exact ih1 _ _ _ _ _ _ _ _ _ _
      | exact ih2 _ _ _ _ _ _ _ _ _ _
      | exact prebendref03_Number.mono _ _ _
      | exact prebendref03_Word.mono _ _ _ _
      | exact prebendref12_numbers.mono _ _ _ _
      | exact LeO.none _
      | refine LeO.ite ?_ ?_
      | refine LeO.bind ?_ (fun _ => ?_)
theorem prebendref12_Decode.mono : ∀ a0 k, LeO (prebendref12_Decode.f k a0) (prebendref12_Decode.f (k + 1) a0) := by
  intro a0 k
  obtain ⟨ih0, ih1, ih2⟩ := prebendref12_Decode.mono_l k
  unfold prebendref12_Decode.f
  repeat' first
      | (with_reducible exact ih0 _ _ _ _ _ _ _ _ _)
      | (with_reducible exact ih1 _ _ _ _ _ _ _ _ _ _)
      | (with_reducible exact ih2 _ _ _ _ _ _ _ _ _ _)
      | (with_reducible exact prebendref03_Number.mono _ _ _)
      | (with_reducible exact prebendref03_Word.mono _ _ _ _)
      | (with_reducible exact prebendref12_numbers.mono _ _ _ _)
      | (with_reducible exact LeO.refl _)
      | (with_reducible exact LeO.none _)
      | (with_reducible refine LeO.ite ?_ ?_)
      | (with_reducible refine LeO.bind ?_ (fun _ => ?_))
      | exact ih0 _ _ _ _ _ _ _ _ _
      | exact ih1 _ _ _ _ _ _ _ _ _ _
      | exact ih2 _ _ _ _ _ _ _ _ _ _
      | exact prebendref03_Number.mono _ _ _
      | exact prebendref03_Word.mono _ _ _ _
      | exact prebendref12_numbers.mono _ _ _ _
      | exact LeO.none _
      | refine LeO.ite ?_ ?_
      | refine LeO.bind ?_ (fun _ => ?_)
def prebendref12_Decode.T4 : Bool × List (List Nat × List Nat) := (true, [([], []), ([0], [0]), ([1], [1]), ([], []), ([3], [3]), ([4], [4]), ([], []), ([6], [6]), ([7], [7]), ([2, 5, 8], [2, 5, 8]), ([], []), ([10, 9, 0, 1, 2, 3, 4, 5, 6, 7, 8, 9, 10], [9, 10])])
def prebendref12_Decode.B4 : List Nat := [0, 1, 3, 0, 8, 24, 0, 64, 192, 511, 0, 2047]
theorem prebendref12_Decode.tab4 : rtab .any (opsOf Try.f31 4) = prebendref12_Decode.T4 := by kernel_rfl
theorem prebendref12_Decode.bits4 : waitsOk prebendref12_Decode.T4.2 prebendref12_Decode.B4 = true := by kernel_rfl
def prebendref12_Decode.T22 : Bool × List (List Nat × List Nat) := (true, [([], []), ([0], [0]), ([], []), ([], []), ([3], [3]), ([2, 4], [2, 4]), ([5], [5]), ([], []), ([], []), ([8], [8]), ([9], [9]), ([7, 10], [7, 10]), ([11], [11]), ([6, 12], [6, 12]), ([13], [13]), ([1, 14], [1, 14]), ([0, 1, 2, 3, 4, 5, 6, 7, 8, 9, 10, 11, 12, 13, 14, 15], []), ([16, 15, 15, 0, 1, 2, 3, 4, 5, 6, 7, 8, 9, 10, 11, 12, 13, 14, 15], [15, 16])])
def prebendref12_Decode.B22 : List Nat := [0, 1, 0, 0, 8, 28, 60, 0, 0, 256, 768, 1920, 3968, 8188, 16380, 32767, 65535, 131071]
theorem prebendref12_Decode.tab22 : rtab .any (opsOf Try.f31 22) = prebendref12_Decode.T22 := by kernel_rfl
theorem prebendref12_Decode.bits22 : waitsOk prebendref12_Decode.T22.2 prebendref12_Decode.B22 = true := by kernel_rfl
set_option maxHeartbeats 8000000 in
set_option maxRecDepth 100000 in
theorem prebendref12_Decode.calls (k : Nat) (A0 : Option Addr) (c0 : Nat) (l0 : List Int) (r1 : Int) (r2 : Int) (r3 : Int) (r4 : ByteArray) (r5 : ByteArray) (r6 : List Int) (r7 : List (S87)) (r8 : Int) (w : World) (hr0 : Kd.C (Kd.int .u8) w A0 l0.length l0) (hc0 : l0.length ≤ c0) (h : prebendref12_Decode.f k l0 = some (r1, r2, r3, r4, r5, r6, r7, r8)) :
    Calls Try.prog 31 #[.slice A0 l0.length c0] w fun e w' => ∃ v5_ v6_ : Value, e = .returned (.tuple #[.agg #[.int .i64 r1, .int .i64 r2, .int .i64 r3, .string r4, .string r5, v5_, v6_], .int .i64 r8]) ∧ Kd.R (Kd.int .i64) 3 w' w.heap.size (fun _ => True) v5_ r6 ∧ Kd.R k87 87 w' w.heap.size (fun _ => True) v6_ r7 ∧ Below w.heap.size w w' := by
  have hu50 := Try.underlying50
  have hu87 := Try.underlying87
  have HR0 := Aside0.mk hr0
  have HC0 := Aside0.mk hc0
  clear hr0 hc0
  have HB := Aside0.mk (Below.refl w.heap.size w)
  have H : ((prebendref12_numbers.f k l0 0 3).bind fun bt289 => (if bt289.2 < 0 then (some (0, 0, 0, (⟨#[]⟩ : ByteArray), (⟨#[]⟩ : ByteArray), ([] : List Int), ([] : List (S87)), 3)) else (if 0 < (bt289.1.length : Int) then (if 1 < (bt289.1.length : Int) then (if 2 < (bt289.1.length : Int) then ((prebendref03_Word.f k l0 bt289.2 16).bind fun bt297 => ((prebendref03_Word.f k l0 bt297.2 16).bind fun bt299 => ((prebendref03_Number.f k l0 bt299.2).bind fun bt301 => (if bt301.2 < 0 then (prebendref12_Decode.j0 k l0 bt301.2 bt301.1 true (rd bt289.1 0) (rd bt289.1 1) (rd bt289.1 2) bt297.1 bt299.1) else (if bt301.1 < 0 then (prebendref12_Decode.j0 k l0 bt301.2 bt301.1 true (rd bt289.1 0) (rd bt289.1 1) (rd bt289.1 2) bt297.1 bt299.1) else (prebendref12_Decode.j0 k l0 bt301.2 bt301.1 (decide (bt301.1 > 8)) (rd bt289.1 0) (rd bt289.1 1) (rd bt289.1 2) bt297.1 bt299.1)))))) else (none)) else (none)) else (none)))) = some (r1, r2, r3, r4, r5, r6, r7, r8) := h
  clear h
  replace H := Option.bind_eq_some_iff.mp H
  obtain ⟨⟨t289, t290⟩, A20, H⟩ := H
  replace H : (if t290 < 0 then (some (0, 0, 0, (⟨#[]⟩ : ByteArray), (⟨#[]⟩ : ByteArray), ([] : List Int), ([] : List (S87)), 3)) else (if 0 < (t289.length : Int) then (if 1 < (t289.length : Int) then (if 2 < (t289.length : Int) then ((prebendref03_Word.f k l0 t290 16).bind fun bt297 => ((prebendref03_Word.f k l0 bt297.2 16).bind fun bt299 => ((prebendref03_Number.f k l0 bt299.2).bind fun bt301 => (if bt301.2 < 0 then (prebendref12_Decode.j0 k l0 bt301.2 bt301.1 true (rd t289 0) (rd t289 1) (rd t289 2) bt297.1 bt299.1) else (if bt301.1 < 0 then (prebendref12_Decode.j0 k l0 bt301.2 bt301.1 true (rd t289 0) (rd t289 1) (rd t289 2) bt297.1 bt299.1) else (prebendref12_Decode.j0 k l0 bt301.2 bt301.1 (decide (bt301.1 > 8)) (rd t289 0) (rd t289 1) (rd t289 2) bt297.1 bt299.1)))))) else (none)) else (none)) else (none))) = some (r1, r2, r3, r4, r5, r6, r7, r8) := H
  have A2 := Aside0.mk A20
  clear A20
  by_cases c3 : t290 < 0
  · rw [if_pos c3] at H
    have c3b0 : decide (t290 < 0) = true := decide_eq_true c3
    clear c3
    simp only [Option.some.injEq, Prod.mk.injEq] at H
    obtain ⟨rfl, rfl, rfl, rfl, rfl, rfl, rfl, rfl⟩ := H
    go_enter Try.func31, Try.ntmps31
    go_wp2_with (first | ((with_reducible refine gate_dst (N := 2) rfl ?_); refine box_event ?hg (N := 2) ?hd (cs := #[.int .i64 0, .int .i64 0, .int .i64 0, .string (⟨#[]⟩ : ByteArray), .string (⟨#[]⟩ : ByteArray), .slice none 0 0, .slice none 0 0]) (t := 50) ?hr ?_; (case hd => rfl); (case hg => rfl); (case hr => first | (go_simp; done) | (go_simp; rfl)); intro gb288 hg w4 hbox hb; have n0_ := Aside0.mk (below_step (by repeat (first | (with_reducible first | exact HB.out | apply below_alloc | apply pw_below_drewN | apply below_drew1) | exact HB.out)) hb); have n1_ := Aside0.mk (hbox); have n2_ := Aside0.mk ((by rw [hg]; exact (below_size (by repeat (first | (with_reducible first | exact HB.out | apply below_alloc | apply pw_below_drewN | apply below_drew1) | exact HB.out))) : w.heap.size ≤ gb288)); have n3_ := Aside0.mk ((by rw [hg]; exact (below_size (by repeat (first | (with_reducible first | exact HB.out | apply below_alloc | apply pw_below_drewN | apply below_drew1) | exact HB.out))) : w.heap.size ≤ gb288)); clear HB; have HB := n0_; have BK288 := n1_; have GW288 := n2_; have GE288 := n3_; clear n0_ n1_ n2_ n3_; clear hb hbox hg) | ((with_reducible refine gate_callee (f := 47) rfl ?_); refine goesL_ (some 12) rfl rfl Try.func47 (by kernel_rfl) rfl #[.slice A0 l0.length c0, .int .i64 0, .int .i64 3] rfl (by (try simp only [List.map_toArray, List.map_cons, List.map_nil]); first | done | rfl | (simp only [List.length_drop, List.length_take]; rfl)) ?_; (with_reducible refine (prebendref12_numbers.calls k _ _ l0 0 3 t289 t290 _ ?side1 ?side2 A2.out).mono ?_); (case side1 => repeat (first | exact (Kd.C_below HR0.out HB.out) | (with_reducible refine Kd.C_alloc ?_ _) | (with_reducible refine Kd.C_drewN ?_ _) | (with_reducible refine Kd.C_drew ?_))); (case side2 => exact HC0.out); rintro e w5 ⟨v291, rfl, ho0, hb⟩; refine ⟨_, rfl, ?_⟩; have n0_ := Aside0.mk (Kd.R_lower ho0 (below_size (by repeat (first | (with_reducible first | exact HB.out | apply below_alloc | apply pw_below_drewN | apply below_drew1 | refine below_set ?_ GE288.out) | exact HB.out)))); have n1_ := Aside0.mk (blk_below (g := gb288) (o := .cells #[.int .i64 0, .int .i64 0, .int .i64 0, .string (⟨#[]⟩ : ByteArray), .string (⟨#[]⟩ : ByteArray), .slice none 0 0, .slice none 0 0] 50 (0, 0)) (by (with_reducible repeat (first | refine blk_drewN ?_ _ | refine blk_drew ?_ | refine blk_alloc ?_ _)); exact BK288.out) hb); have n2_ := Aside0.mk (below_step (by repeat (first | (with_reducible first | exact HB.out | apply below_alloc | apply pw_below_drewN | apply below_drew1 | refine below_set ?_ GE288.out) | exact HB.out)) hb); clear BK288; clear HB; have HO292 := n0_; have BK288 := n1_; have HB := n2_; clear n0_ n1_ n2_; (try clear hb); (try clear hb2); (try clear hk); (try clear hi); (try clear ho0); have hcz6_0 : w5.cell? ⟨gb288, 0, none⟩ = some (.int .i64 0) := (blk_cell BK288.out 0).trans rfl; have hcz6_1 : w5.cell? ⟨gb288, 1, none⟩ = some (.int .i64 0) := (blk_cell BK288.out 1).trans rfl; have hcz6_2 : w5.cell? ⟨gb288, 2, none⟩ = some (.int .i64 0) := (blk_cell BK288.out 2).trans rfl; have hcz6_3 : w5.cell? ⟨gb288, 3, none⟩ = some (.string (⟨#[]⟩ : ByteArray)) := (blk_cell BK288.out 3).trans rfl; have hcz6_4 : w5.cell? ⟨gb288, 4, none⟩ = some (.string (⟨#[]⟩ : ByteArray)) := (blk_cell BK288.out 4).trans rfl; have hcz6_5 : w5.cell? ⟨gb288, 5, none⟩ = some (.slice none 0 0) := (blk_cell BK288.out 5).trans rfl; have hcz6_6 : w5.cell? ⟨gb288, 6, none⟩ = some (.slice none 0 0) := (blk_cell BK288.out 6).trans rfl; have hfz6_0 := blk_frozen BK288.out 0; have hfz6_1 := blk_frozen BK288.out 1; have hfz6_2 := blk_frozen BK288.out 2; have hfz6_3 := blk_frozen BK288.out 3; have hfz6_4 := blk_frozen BK288.out 4; have hfz6_5 := blk_frozen BK288.out 5; have hfz6_6 := blk_frozen BK288.out 6))
    refine bodyPost_ret (results_ct rfl _ _ gb288 50 #[.int .i64 0, .int .i64 0, .int .i64 0, .string (⟨#[]⟩ : ByteArray), .string (⟨#[]⟩ : ByteArray), .slice none 0 0, .slice none 0 0] (0, 0) _ rfl (by (with_reducible repeat (first | refine blk_drewN ?_ _ | refine blk_drew ?_ | refine blk_alloc ?_ _)); refine blk_put (cs := #[.int .i64 0, .int .i64 0, .int .i64 0, .string (⟨#[]⟩ : ByteArray), .string (⟨#[]⟩ : ByteArray), .slice none 0 0, .slice none 0 0]) ?_ 6 _ rfl; (with_reducible repeat (first | refine blk_drewN ?_ _ | refine blk_drew ?_ | refine blk_alloc ?_ _)); refine blk_put (cs := #[.int .i64 0, .int .i64 0, .int .i64 0, .string (⟨#[]⟩ : ByteArray), .string (⟨#[]⟩ : ByteArray), .slice none 0 0, .slice none 0 0]) ?_ 5 _ rfl; (with_reducible repeat (first | refine blk_drewN ?_ _ | refine blk_drew ?_ | refine blk_alloc ?_ _)); refine blk_put (cs := #[.int .i64 0, .int .i64 0, .int .i64 0, .string (⟨#[]⟩ : ByteArray), .string (⟨#[]⟩ : ByteArray), .slice none 0 0, .slice none 0 0]) ?_ 4 _ rfl; (with_reducible repeat (first | refine blk_drewN ?_ _ | refine blk_drew ?_ | refine blk_alloc ?_ _)); refine blk_put (cs := #[.int .i64 0, .int .i64 0, .int .i64 0, .string (⟨#[]⟩ : ByteArray), .string (⟨#[]⟩ : ByteArray), .slice none 0 0, .slice none 0 0]) ?_ 3 _ rfl; (with_reducible repeat (first | refine blk_drewN ?_ _ | refine blk_drew ?_ | refine blk_alloc ?_ _)); refine blk_put (cs := #[.int .i64 0, .int .i64 0, .int .i64 0, .string (⟨#[]⟩ : ByteArray), .string (⟨#[]⟩ : ByteArray), .slice none 0 0, .slice none 0 0]) ?_ 2 _ rfl; (with_reducible repeat (first | refine blk_drewN ?_ _ | refine blk_drew ?_ | refine blk_alloc ?_ _)); refine blk_put (cs := #[.int .i64 0, .int .i64 0, .int .i64 0, .string (⟨#[]⟩ : ByteArray), .string (⟨#[]⟩ : ByteArray), .slice none 0 0, .slice none 0 0]) ?_ 1 _ rfl; (with_reducible repeat (first | refine blk_drewN ?_ _ | refine blk_drew ?_ | refine blk_alloc ?_ _)); refine blk_put (cs := #[.int .i64 0, .int .i64 0, .int .i64 0, .string (⟨#[]⟩ : ByteArray), .string (⟨#[]⟩ : ByteArray), .slice none 0 0, .slice none 0 0]) ?_ 0 _ rfl; (with_reducible repeat (first | refine blk_drewN ?_ _ | refine blk_drew ?_ | refine blk_alloc ?_ _)); exact BK288.out) Try.underlying50 rfl (by kernel_rfl)) rfl ?_
    exact ⟨_, _, by first | rfl | (simp [errW_none, errW_some] <;> rfl) | (simp [*, errW_none, errW_some] <;> rfl), by first | exact Kd.R_nil _ _ _ _ _ | exact Kd.N_nil _ _ _ _ _ | exact Kd.V_nil _ _ _ _ _ | exact Kd.Q_nil _ _ _ _ _ | exact Kd.S_nil _ _ _ _ _, by first | exact Kd.R_nil _ _ _ _ _ | exact Kd.N_nil _ _ _ _ _ | exact Kd.V_nil _ _ _ _ _ | exact Kd.Q_nil _ _ _ _ _ | exact Kd.S_nil _ _ _ _ _, by repeat (first | (with_reducible first | exact HB.out | apply below_alloc | apply pw_below_drewN | apply below_drew1 | refine below_set ?_ GE288.out) | exact HB.out)⟩
  · rw [if_neg c3] at H
    have c3b0 : decide (t290 < 0) = false := decide_eq_false c3
    clear c3
    by_cases c7 : 0 < (t289.length : Int)
    · rw [if_pos c7] at H
      have c7b0 : decide (0 < (t289.length : Int)) = true := decide_eq_true c7
      have c7b1 : decide (0 < t289.length) = true := decide_eq_true (by omega)
      clear c7
      by_cases c8 : 1 < (t289.length : Int)
      · rw [if_pos c8] at H
        have c8b0 : decide (1 < (t289.length : Int)) = true := decide_eq_true c8
        have c8b1 : decide (1 < t289.length) = true := decide_eq_true (by omega)
        clear c8
        by_cases c9 : 2 < (t289.length : Int)
        · rw [if_pos c9] at H
          have c9b0 : decide (2 < (t289.length : Int)) = true := decide_eq_true c9
          have c9b1 : decide (2 < t289.length) = true := decide_eq_true (by omega)
          clear c9
          replace H := Option.bind_eq_some_iff.mp H
          obtain ⟨⟨t297, t298⟩, A100, H⟩ := H
          replace H : ((prebendref03_Word.f k l0 t298 16).bind fun bt299 => ((prebendref03_Number.f k l0 bt299.2).bind fun bt301 => (if bt301.2 < 0 then (prebendref12_Decode.j0 k l0 bt301.2 bt301.1 true (rd t289 0) (rd t289 1) (rd t289 2) t297 bt299.1) else (if bt301.1 < 0 then (prebendref12_Decode.j0 k l0 bt301.2 bt301.1 true (rd t289 0) (rd t289 1) (rd t289 2) t297 bt299.1) else (prebendref12_Decode.j0 k l0 bt301.2 bt301.1 (decide (bt301.1 > 8)) (rd t289 0) (rd t289 1) (rd t289 2) t297 bt299.1))))) = some (r1, r2, r3, r4, r5, r6, r7, r8) := H
          have A10 := Aside0.mk A100
          clear A100
          replace H := Option.bind_eq_some_iff.mp H
          obtain ⟨⟨t299, t300⟩, A110, H⟩ := H
          replace H : ((prebendref03_Number.f k l0 t300).bind fun bt301 => (if bt301.2 < 0 then (prebendref12_Decode.j0 k l0 bt301.2 bt301.1 true (rd t289 0) (rd t289 1) (rd t289 2) t297 t299) else (if bt301.1 < 0 then (prebendref12_Decode.j0 k l0 bt301.2 bt301.1 true (rd t289 0) (rd t289 1) (rd t289 2) t297 t299) else (prebendref12_Decode.j0 k l0 bt301.2 bt301.1 (decide (bt301.1 > 8)) (rd t289 0) (rd t289 1) (rd t289 2) t297 t299)))) = some (r1, r2, r3, r4, r5, r6, r7, r8) := H
          have A11 := Aside0.mk A110
          clear A110
          replace H := Option.bind_eq_some_iff.mp H
          obtain ⟨⟨t301, t302⟩, A120, H⟩ := H
          replace H : (if t302 < 0 then (prebendref12_Decode.j0 k l0 t302 t301 true (rd t289 0) (rd t289 1) (rd t289 2) t297 t299) else (if t301 < 0 then (prebendref12_Decode.j0 k l0 t302 t301 true (rd t289 0) (rd t289 1) (rd t289 2) t297 t299) else (prebendref12_Decode.j0 k l0 t302 t301 (decide (t301 > 8)) (rd t289 0) (rd t289 1) (rd t289 2) t297 t299))) = some (r1, r2, r3, r4, r5, r6, r7, r8) := H
          have A12 := Aside0.mk A120
          clear A120
          have HC13 := Aside0.mk H
          clear H
          go_enter Try.func31, Try.ntmps31
          try go_wp2_with (first | ((with_reducible refine gate_dst (N := 2) rfl ?_); refine box_event ?hg (N := 2) ?hd (cs := #[.int .i64 0, .int .i64 0, .int .i64 0, .string (⟨#[]⟩ : ByteArray), .string (⟨#[]⟩ : ByteArray), .slice none 0 0, .slice none 0 0]) (t := 50) ?hr ?_; (case hd => rfl); (case hg => rfl); (case hr => first | (go_simp; done) | (go_simp; rfl)); intro gb288 hg w14 hbox hb; have n0_ := Aside0.mk (below_step (by repeat (first | (with_reducible first | exact HB.out | apply below_alloc | apply pw_below_drewN | apply below_drew1) | exact HB.out)) hb); have n1_ := Aside0.mk (hbox); have n2_ := Aside0.mk ((by rw [hg]; exact (below_size (by repeat (first | (with_reducible first | exact HB.out | apply below_alloc | apply pw_below_drewN | apply below_drew1) | exact HB.out))) : w.heap.size ≤ gb288)); have n3_ := Aside0.mk ((by rw [hg]; exact (below_size (by repeat (first | (with_reducible first | exact HB.out | apply below_alloc | apply pw_below_drewN | apply below_drew1) | exact HB.out))) : w.heap.size ≤ gb288)); clear HB; have HB := n0_; have BK288 := n1_; have GW288 := n2_; have GE288 := n3_; clear n0_ n1_ n2_ n3_; clear hb hbox hg) | ((with_reducible refine gate_callee (f := 47) rfl ?_); refine goesL_ (some 12) rfl rfl Try.func47 (by kernel_rfl) rfl #[.slice A0 l0.length c0, .int .i64 0, .int .i64 3] rfl (by (try simp only [List.map_toArray, List.map_cons, List.map_nil]); first | done | rfl | (simp only [List.length_drop, List.length_take]; rfl)) ?_; (with_reducible refine (prebendref12_numbers.calls k _ _ l0 0 3 t289 t290 _ ?side1 ?side2 A2.out).mono ?_); (case side1 => repeat (first | exact (Kd.C_below HR0.out HB.out) | (with_reducible refine Kd.C_alloc ?_ _) | (with_reducible refine Kd.C_drewN ?_ _) | (with_reducible refine Kd.C_drew ?_))); (case side2 => exact HC0.out); rintro e w15 ⟨v291, rfl, ho0, hb⟩; refine ⟨_, rfl, ?_⟩; have n0_ := Aside0.mk (Kd.R_lower ho0 (below_size (by repeat (first | (with_reducible first | exact HB.out | apply below_alloc | apply pw_below_drewN | apply below_drew1 | refine below_set ?_ GE288.out) | exact HB.out)))); have n1_ := Aside0.mk (blk_below (g := gb288) (o := .cells #[.int .i64 0, .int .i64 0, .int .i64 0, .string (⟨#[]⟩ : ByteArray), .string (⟨#[]⟩ : ByteArray), .slice none 0 0, .slice none 0 0] 50 (0, 0)) (by (with_reducible repeat (first | refine blk_drewN ?_ _ | refine blk_drew ?_ | refine blk_alloc ?_ _)); exact BK288.out) hb); have n2_ := Aside0.mk (below_step (by repeat (first | (with_reducible first | exact HB.out | apply below_alloc | apply pw_below_drewN | apply below_drew1 | refine below_set ?_ GE288.out) | exact HB.out)) hb); clear BK288; clear HB; have HO292 := n0_; have BK288 := n1_; have HB := n2_; clear n0_ n1_ n2_; (try clear hb); (try clear hb2); (try clear hk); (try clear hi); (try clear ho0)))
          have n0_ := Aside0.mk (Kd.R_drew HO292.out)
          have n1_ := Aside0.mk (blk_drew BK288.out)
          have n2_ := Aside0.mk (below_drew1 HB.out)
          clear HO292
          clear BK288
          clear HB
          have HO292 := n0_
          have BK288 := n1_
          have HB := n2_
          clear n0_ n1_ n2_
          obtain ⟨Ao17, co17, eo17⟩ := Kd.R_slice HO292.out
          (first | subst eo17 | (injection eo17 with f1_ f2_ f3_; have f4_ := f1_.symm; have f5_ := f3_.symm; clear f1_ f2_ f3_; subst f4_; subst f5_))
          have p293 : 0 ≤ (0 : Int) := (by omega)
          have q293 : 0 < (t289.length : Int) := of_decide_eq_true (by first | (with_reducible assumption) | assumption)
          obtain ⟨ad293, e293, hx293_0⟩ := Kd.at_int (Kd.R_reads' HO292.out).2.2 0 p293 q293
          cases e293
          have qi293 : (0 < t289.length) = True := eq_true (by omega)
          (try rw [show ((0 : Int)).toNat = 0 from rfl] at hx293_0)
          (try rw [Addr.add_zero'] at hx293_0)
          replace p293 := eq_true p293
          replace q293 := eq_true q293
          have p294 : 0 ≤ (1 : Int) := (by omega)
          have q294 : 1 < (t289.length : Int) := of_decide_eq_true (by first | (with_reducible assumption) | assumption)
          obtain ⟨ad294, e294, hx294_0⟩ := Kd.at_int (Kd.R_reads' HO292.out).2.2 1 p294 q294
          obtain rfl : ad293 = ad294 := (by injection e294)
          (try simp only [show (1 : Int).toNat = 1 from rfl, Nat.reduceMul, Nat.reduceEqDiff, Go.Addr.add, ↓reduceIte] at hx294_0)
          have qi294 : (1 < t289.length) = True := eq_true (by omega)
          (try rw [show ((1 : Int)).toNat = 1 from rfl] at hx294_0)
          replace p294 := eq_true p294
          replace q294 := eq_true q294
          have p295 : 0 ≤ (2 : Int) := (by omega)
          have q295 : 2 < (t289.length : Int) := of_decide_eq_true (by first | (with_reducible assumption) | assumption)
          obtain ⟨ad295, e295, hx295_0⟩ := Kd.at_int (Kd.R_reads' HO292.out).2.2 2 p295 q295
          obtain rfl : ad293 = ad295 := (by injection e295)
          (try simp only [show (2 : Int).toNat = 2 from rfl, Nat.reduceMul, Nat.reduceEqDiff, Go.Addr.add, ↓reduceIte] at hx295_0)
          have qi295 : (2 < t289.length) = True := eq_true (by omega)
          (try rw [show ((2 : Int)).toNat = 2 from rfl] at hx295_0)
          replace p295 := eq_true p295
          replace q295 := eq_true q295
          refine start_ (n := 12) (S := fun w' => w'.cell? ad293 = some (.int .i64 (rd t289 0)) ∧ w'.cell? ⟨ad293.block, ad293.off + 1, none⟩ = some (.int .i64 (rd t289 1)) ∧ w'.cell? ⟨ad293.block, ad293.off + 2, none⟩ = some (.int .i64 (rd t289 2))) (ds := []) #[false, false, false, false, false, false, false, false, false, false, false, false] (by kernel_rfl) rfl rfl ⟨hx293_0, hx294_0, hx295_0⟩ (fun hHeld => ?_); refine with_tabW prebendref12_Decode.tab4 prebendref12_Decode.bits4 (fun HT_ HW_ => ?_)
          generalize w15.drew = w16 at HO292 BK288 HB hx293_0 hx294_0 hx295_0 hHeld ⊢
          refine pure_ (i := 0) (N := some 18) (v := ?_) (a' := ?_) #[true, false, false, false, false, false, false, false, false, false, false, false] rfl rfl (any_of HT_.out (by kernel_rfl)) (fun _ _ _ h => h) (Or.inl ⟨by rfl, ?_⟩) ?_ ?_
          rotate_left
          · intro w'
            go_simp
            with_reducible rfl
          rotate_left
          · simp only [Act.put, List.setIfInBounds_toArray, List.set_cons_zero, List.set_cons_succ, i64_w, i32_w]
            rfl
          refine pure_ (i := 1) (N := some 19) (v := ?_) (a' := ?_) #[true, true, false, false, false, false, false, false, false, false, false, false] rfl rfl (any_of HT_.out (by kernel_rfl)) (fun _ _ _ h => h) (Or.inl ⟨by rfl, ?_⟩) ?_ ?_
          rotate_left
          · intro w'
            go_simp
            with_reducible rfl
          rotate_left
          · simp only [Act.put, List.setIfInBounds_toArray, List.set_cons_zero, List.set_cons_succ, i64_w, i32_w]
            rfl
          refine pure_ (i := 3) (N := some 21) (v := ?_) (a' := ?_) #[true, true, false, true, false, false, false, false, false, false, false, false] rfl rfl (any_of HT_.out (by kernel_rfl)) (fun _ _ _ h => h) (Or.inl ⟨by rfl, ?_⟩) ?_ ?_
          rotate_left
          · intro w'
            go_simp
            with_reducible rfl
          rotate_left
          · simp only [Act.put, List.setIfInBounds_toArray, List.set_cons_zero, List.set_cons_succ, i64_w, i32_w]
            rfl
          refine pure_ (i := 4) (N := some 22) (v := ?_) (a' := ?_) #[true, true, false, true, true, false, false, false, false, false, false, false] rfl rfl (any_of HT_.out (by kernel_rfl)) (fun _ _ _ h => h) (Or.inl ⟨by rfl, ?_⟩) ?_ ?_
          rotate_left
          · intro w'
            go_simp
            with_reducible rfl
          rotate_left
          · simp only [Act.put, List.setIfInBounds_toArray, List.set_cons_zero, List.set_cons_succ, i64_w, i32_w]
            rfl
          refine pure_ (i := 6) (N := some 24) (v := ?_) (a' := ?_) #[true, true, false, true, true, false, true, false, false, false, false, false] rfl rfl (any_of HT_.out (by kernel_rfl)) (fun _ _ _ h => h) (Or.inl ⟨by rfl, ?_⟩) ?_ ?_
          rotate_left
          · intro w'
            go_simp
            with_reducible rfl
          rotate_left
          · simp only [Act.put, List.setIfInBounds_toArray, List.set_cons_zero, List.set_cons_succ, i64_w, i32_w]
            rfl
          refine pure_ (i := 7) (N := some 25) (v := ?_) (a' := ?_) #[true, true, false, true, true, false, true, true, false, false, false, false] rfl rfl (any_of HT_.out (by kernel_rfl)) (fun _ _ _ h => h) (Or.inl ⟨by rfl, ?_⟩) ?_ ?_
          rotate_left
          · intro w'
            go_simp
            with_reducible rfl
          rotate_left
          · simp only [Act.put, List.setIfInBounds_toArray, List.set_cons_zero, List.set_cons_succ, i64_w, i32_w]
            rfl
          refine take_ (i := 2) (N := some 20) (v := ?_) (a' := ?_) #[true, true, true, true, true, false, true, true, false, false, false, false] rfl rfl (take_ofW HT_.out HW_.out (by kernel_rfl)) (fun _ _ _ h => h) (Or.inl ⟨by rfl, ?_⟩) hHeld ?_ ?_
          rotate_left
          · rintro w' ⟨s0, s1, s2⟩
            go_simp
            with_reducible rfl
          rotate_left
          · simp only [Act.put, List.setIfInBounds_toArray, List.set_cons_zero, List.set_cons_succ, i64_w, i32_w]
            rfl
          refine take_ (i := 5) (N := some 23) (v := ?_) (a' := ?_) #[true, true, true, true, true, true, true, true, false, false, false, false] rfl rfl (take_ofW HT_.out HW_.out (by kernel_rfl)) (fun _ _ _ h => h) (Or.inl ⟨by rfl, ?_⟩) hHeld ?_ ?_
          rotate_left
          · rintro w' ⟨s0, s1, s2⟩
            go_simp
            with_reducible rfl
          rotate_left
          · simp only [Act.put, List.setIfInBounds_toArray, List.set_cons_zero, List.set_cons_succ, i64_w, i32_w]
            rfl
          refine take_ (i := 8) (N := some 26) (v := ?_) (a' := ?_) #[true, true, true, true, true, true, true, true, true, false, false, false] rfl rfl (take_ofW HT_.out HW_.out (by kernel_rfl)) (fun _ _ _ h => h) (Or.inl ⟨by rfl, ?_⟩) hHeld ?_ ?_
          rotate_left
          · rintro w' ⟨s0, s1, s2⟩
            go_simp
            with_reducible rfl
          rotate_left
          · simp only [Act.put, List.setIfInBounds_toArray, List.set_cons_zero, List.set_cons_succ, i64_w, i32_w]
            rfl
          refine pure_ (i := 9) (N := some 27) (v := ?_) (a' := ?_) #[true, true, true, true, true, true, true, true, true, true, false, false] rfl rfl (any_of HT_.out (by kernel_rfl)) (fun _ _ _ h => h) (Or.inl ⟨by rfl, ?_⟩) ?_ ?_
          rotate_left
          · intro w'
            go_simp
            with_reducible rfl
          rotate_left
          · simp only [Act.put, List.setIfInBounds_toArray, List.set_cons_zero, List.set_cons_succ, i64_w, i32_w]
            rfl
          refine one_ (i := 10) (N := some 6) #[true, true, true, true, true, true, true, true, true, true, true, false] rfl rfl (one_of HT_.out (by kernel_rfl)) (by decide) (fun K hK => ?_)
          refine box_step ?hg (N := 6) ?hd (cs := #[.int .i64 0, .int .i64 0, .int .i64 0, .string (⟨#[]⟩ : ByteArray), .string (⟨#[]⟩ : ByteArray), .slice none 0 0, .slice none 0 0]) (t := 50) ?hr ?_; (case hd => rfl); (case hg => rfl); (case hr => first | (go_simp; done) | (go_simp; rfl))
          intro gb296 hg w18 hbox hb
          have HS0_ := (hb.cell (World.block_lt_of_cell? _ _ (hHeld.1))).trans (hHeld.1)
          have HS1_ := (hb.cell (World.block_lt_of_cell? _ _ (hHeld.2.1))).trans (hHeld.2.1)
          have HS2_ := (hb.cell (World.block_lt_of_cell? _ _ (hHeld.2.2))).trans (hHeld.2.2)
          have n0_ := Aside0.mk (Kd.R_below (by (with_reducible repeat (first | apply Kd.R_alloc | apply Kd.R_drewN | apply Kd.R_drew)); exact HO292.out) hb)
          have n1_ := Aside0.mk (blk_below (g := gb288) (o := .cells #[.int .i64 0, .int .i64 0, .int .i64 0, .string (⟨#[]⟩ : ByteArray), .string (⟨#[]⟩ : ByteArray), .slice none 0 0, .slice none 0 0] 50 (0, 0)) (by (with_reducible repeat (first | refine blk_drewN ?_ _ | refine blk_drew ?_ | refine blk_alloc ?_ _)); exact BK288.out) hb)
          have n2_ := Aside0.mk (below_step (by repeat (first | (with_reducible first | exact HB.out | apply below_alloc | apply pw_below_drewN | apply below_drew1 | refine below_set ?_ GE288.out) | exact HB.out)) hb)
          have n3_ := Aside0.mk (hbox)
          have n4_ := Aside0.mk ((by rw [hg]; exact (below_size (by repeat (first | (with_reducible first | exact HB.out | apply below_alloc | apply pw_below_drewN | apply below_drew1 | refine below_set ?_ GE288.out) | exact HB.out))) : w.heap.size ≤ gb296))
          have n5_ := Aside0.mk ((by rw [hg]; exact (below_size (by repeat (first | (with_reducible first | exact HB.out | apply below_alloc | apply pw_below_drewN | apply below_drew1 | refine below_set ?_ GE288.out) | exact HB.out))) : w.heap.size ≤ gb296))
          have n6_ := Aside0.mk ((by rw [hg]; exact Nat.ne_of_lt (blk_lt (g := gb288) (o := .cells #[.int .i64 0, .int .i64 0, .int .i64 0, .string (⟨#[]⟩ : ByteArray), .string (⟨#[]⟩ : ByteArray), .slice none 0 0, .slice none 0 0] 50 (0, 0)) (by (with_reducible repeat (first | refine blk_drewN ?_ _ | refine blk_drew ?_ | refine blk_alloc ?_ _)); exact BK288.out)) : gb288 ≠ gb296))
          have n7_ := Aside0.mk ((by rw [hg]; exact Nat.ne_of_gt (blk_lt (g := gb288) (o := .cells #[.int .i64 0, .int .i64 0, .int .i64 0, .string (⟨#[]⟩ : ByteArray), .string (⟨#[]⟩ : ByteArray), .slice none 0 0, .slice none 0 0] 50 (0, 0)) (by (with_reducible repeat (first | refine blk_drewN ?_ _ | refine blk_drew ?_ | refine blk_alloc ?_ _)); exact BK288.out)) : gb296 ≠ gb288))
          clear HO292
          clear BK288
          clear HB
          have HO292 := n0_
          have BK288 := n1_
          have HB := n2_
          have BK296 := n3_
          have GW296 := n4_
          have GE296 := n5_
          have NB288_296 := n6_
          have NB296_288 := n7_
          clear n0_ n1_ n2_ n3_ n4_ n5_ n6_ n7_
          clear hb hbox hg
          refine hK.out _ _ ⟨HS0_, HS1_, HS2_⟩ (fun hHeld => ?_)
          clear hK K
          refine norm_ (a' := ?_) ?_ ?_
          rotate_left
          · show Act.put _ (some 6) _ = _
            simp only [Act.put, List.setIfInBounds_toArray, List.set_cons_zero, List.set_cons_succ, i64_w, i32_w]
            rfl
          refine one_ (i := 11) (N := none) #[true, true, true, true, true, true, true, true, true, true, true, true] rfl rfl (one_of HT_.out (by kernel_rfl)) (by decide) (fun K hK => ?_)
          have hs19 : w18.cell? ⟨gb296, 0, none⟩ = some (.int .i64 0) := (blk_cell BK296.out 0).trans rfl
          have hfs19 := blk_frozen BK296.out 0
          have hns19_0 := NB288_296.out
          have hms19_0 := NB296_288.out
          have hs20 : w18.cell? ⟨gb296, 1, none⟩ = some (.int .i64 0) := (blk_cell BK296.out 1).trans rfl
          have hfs20 := blk_frozen BK296.out 1
          have hns20_0 := NB288_296.out
          have hms20_0 := NB296_288.out
          have hs21 : w18.cell? ⟨gb296, 2, none⟩ = some (.int .i64 0) := (blk_cell BK296.out 2).trans rfl
          have hfs21 := blk_frozen BK296.out 2
          have hns21_0 := NB288_296.out
          have hms21_0 := NB296_288.out
          have hs22 : w18.cell? ⟨gb296, 3, none⟩ = some (.string (⟨#[]⟩ : ByteArray)) := (blk_cell BK296.out 3).trans rfl
          have hfs22 := blk_frozen BK296.out 3
          have hns22_0 := NB288_296.out
          have hms22_0 := NB296_288.out
          have hs23 : w18.cell? ⟨gb296, 4, none⟩ = some (.string (⟨#[]⟩ : ByteArray)) := (blk_cell BK296.out 4).trans rfl
          have hfs23 := blk_frozen BK296.out 4
          have hns23_0 := NB288_296.out
          have hms23_0 := NB296_288.out
          have hs24 : w18.cell? ⟨gb296, 5, none⟩ = some (.slice none 0 0) := (blk_cell BK296.out 5).trans rfl
          have hfs24 := blk_frozen BK296.out 5
          have hns24_0 := NB288_296.out
          have hms24_0 := NB296_288.out
          have hs25 : w18.cell? ⟨gb296, 6, none⟩ = some (.slice none 0 0) := (blk_cell BK296.out 6).trans rfl
          have hfs25 := blk_frozen BK296.out 6
          have hns25_0 := NB288_296.out
          have hms25_0 := NB296_288.out
          refine skip_ (w1 := ?_) (by rfl) rfl ?_ ?_
          rotate_left
          · go_simp
            rfl
          refine hK.out _ _ ⟨((cell_far (p := ⟨gb296, _, none⟩) (by first | exact Kd.own_blk (Kd.R_ne HO292.out BK296.out (by decide)) | (rw [add_block]; exact Kd.own_blk (Kd.R_ne HO292.out BK296.out (by decide))) | (show (Addr.add _ _).block ≠ _; rw [add_block]; exact Kd.own_blk (Kd.R_ne HO292.out BK296.out (by decide))) | (dsimp only; exact Kd.own_blk (Kd.R_ne HO292.out BK296.out (by decide)))) _).trans (((cell_far (p := ⟨gb296, _, none⟩) (by first | exact Kd.own_blk (Kd.R_ne HO292.out BK296.out (by decide)) | (rw [add_block]; exact Kd.own_blk (Kd.R_ne HO292.out BK296.out (by decide))) | (show (Addr.add _ _).block ≠ _; rw [add_block]; exact Kd.own_blk (Kd.R_ne HO292.out BK296.out (by decide))) | (dsimp only; exact Kd.own_blk (Kd.R_ne HO292.out BK296.out (by decide)))) _).trans (((cell_far (p := ⟨gb296, _, none⟩) (by first | exact Kd.own_blk (Kd.R_ne HO292.out BK296.out (by decide)) | (rw [add_block]; exact Kd.own_blk (Kd.R_ne HO292.out BK296.out (by decide))) | (show (Addr.add _ _).block ≠ _; rw [add_block]; exact Kd.own_blk (Kd.R_ne HO292.out BK296.out (by decide))) | (dsimp only; exact Kd.own_blk (Kd.R_ne HO292.out BK296.out (by decide)))) _).trans (((cell_far (p := ⟨gb296, _, none⟩) (by first | exact Kd.own_blk (Kd.R_ne HO292.out BK296.out (by decide)) | (rw [add_block]; exact Kd.own_blk (Kd.R_ne HO292.out BK296.out (by decide))) | (show (Addr.add _ _).block ≠ _; rw [add_block]; exact Kd.own_blk (Kd.R_ne HO292.out BK296.out (by decide))) | (dsimp only; exact Kd.own_blk (Kd.R_ne HO292.out BK296.out (by decide)))) _).trans (((cell_far (p := ⟨gb296, _, none⟩) (by first | exact Kd.own_blk (Kd.R_ne HO292.out BK296.out (by decide)) | (rw [add_block]; exact Kd.own_blk (Kd.R_ne HO292.out BK296.out (by decide))) | (show (Addr.add _ _).block ≠ _; rw [add_block]; exact Kd.own_blk (Kd.R_ne HO292.out BK296.out (by decide))) | (dsimp only; exact Kd.own_blk (Kd.R_ne HO292.out BK296.out (by decide)))) _).trans (((cell_far (p := ⟨gb296, _, none⟩) (by first | exact Kd.own_blk (Kd.R_ne HO292.out BK296.out (by decide)) | (rw [add_block]; exact Kd.own_blk (Kd.R_ne HO292.out BK296.out (by decide))) | (show (Addr.add _ _).block ≠ _; rw [add_block]; exact Kd.own_blk (Kd.R_ne HO292.out BK296.out (by decide))) | (dsimp only; exact Kd.own_blk (Kd.R_ne HO292.out BK296.out (by decide)))) _).trans (((cell_far (p := ⟨gb296, _, none⟩) (by first | exact Kd.own_blk (Kd.R_ne HO292.out BK296.out (by decide)) | (rw [add_block]; exact Kd.own_blk (Kd.R_ne HO292.out BK296.out (by decide))) | (show (Addr.add _ _).block ≠ _; rw [add_block]; exact Kd.own_blk (Kd.R_ne HO292.out BK296.out (by decide))) | (dsimp only; exact Kd.own_blk (Kd.R_ne HO292.out BK296.out (by decide)))) _).trans (hHeld.1)))))))))))))), ((cell_far (p := ⟨gb296, _, none⟩) (by first | exact Kd.own_blk (Kd.R_ne HO292.out BK296.out (by decide)) | (rw [add_block]; exact Kd.own_blk (Kd.R_ne HO292.out BK296.out (by decide))) | (show (Addr.add _ _).block ≠ _; rw [add_block]; exact Kd.own_blk (Kd.R_ne HO292.out BK296.out (by decide))) | (dsimp only; exact Kd.own_blk (Kd.R_ne HO292.out BK296.out (by decide)))) _).trans (((cell_far (p := ⟨gb296, _, none⟩) (by first | exact Kd.own_blk (Kd.R_ne HO292.out BK296.out (by decide)) | (rw [add_block]; exact Kd.own_blk (Kd.R_ne HO292.out BK296.out (by decide))) | (show (Addr.add _ _).block ≠ _; rw [add_block]; exact Kd.own_blk (Kd.R_ne HO292.out BK296.out (by decide))) | (dsimp only; exact Kd.own_blk (Kd.R_ne HO292.out BK296.out (by decide)))) _).trans (((cell_far (p := ⟨gb296, _, none⟩) (by first | exact Kd.own_blk (Kd.R_ne HO292.out BK296.out (by decide)) | (rw [add_block]; exact Kd.own_blk (Kd.R_ne HO292.out BK296.out (by decide))) | (show (Addr.add _ _).block ≠ _; rw [add_block]; exact Kd.own_blk (Kd.R_ne HO292.out BK296.out (by decide))) | (dsimp only; exact Kd.own_blk (Kd.R_ne HO292.out BK296.out (by decide)))) _).trans (((cell_far (p := ⟨gb296, _, none⟩) (by first | exact Kd.own_blk (Kd.R_ne HO292.out BK296.out (by decide)) | (rw [add_block]; exact Kd.own_blk (Kd.R_ne HO292.out BK296.out (by decide))) | (show (Addr.add _ _).block ≠ _; rw [add_block]; exact Kd.own_blk (Kd.R_ne HO292.out BK296.out (by decide))) | (dsimp only; exact Kd.own_blk (Kd.R_ne HO292.out BK296.out (by decide)))) _).trans (((cell_far (p := ⟨gb296, _, none⟩) (by first | exact Kd.own_blk (Kd.R_ne HO292.out BK296.out (by decide)) | (rw [add_block]; exact Kd.own_blk (Kd.R_ne HO292.out BK296.out (by decide))) | (show (Addr.add _ _).block ≠ _; rw [add_block]; exact Kd.own_blk (Kd.R_ne HO292.out BK296.out (by decide))) | (dsimp only; exact Kd.own_blk (Kd.R_ne HO292.out BK296.out (by decide)))) _).trans (((cell_far (p := ⟨gb296, _, none⟩) (by first | exact Kd.own_blk (Kd.R_ne HO292.out BK296.out (by decide)) | (rw [add_block]; exact Kd.own_blk (Kd.R_ne HO292.out BK296.out (by decide))) | (show (Addr.add _ _).block ≠ _; rw [add_block]; exact Kd.own_blk (Kd.R_ne HO292.out BK296.out (by decide))) | (dsimp only; exact Kd.own_blk (Kd.R_ne HO292.out BK296.out (by decide)))) _).trans (((cell_far (p := ⟨gb296, _, none⟩) (by first | exact Kd.own_blk (Kd.R_ne HO292.out BK296.out (by decide)) | (rw [add_block]; exact Kd.own_blk (Kd.R_ne HO292.out BK296.out (by decide))) | (show (Addr.add _ _).block ≠ _; rw [add_block]; exact Kd.own_blk (Kd.R_ne HO292.out BK296.out (by decide))) | (dsimp only; exact Kd.own_blk (Kd.R_ne HO292.out BK296.out (by decide)))) _).trans (hHeld.2.1)))))))))))))), ((cell_far (p := ⟨gb296, _, none⟩) (by first | exact Kd.own_blk (Kd.R_ne HO292.out BK296.out (by decide)) | (rw [add_block]; exact Kd.own_blk (Kd.R_ne HO292.out BK296.out (by decide))) | (show (Addr.add _ _).block ≠ _; rw [add_block]; exact Kd.own_blk (Kd.R_ne HO292.out BK296.out (by decide))) | (dsimp only; exact Kd.own_blk (Kd.R_ne HO292.out BK296.out (by decide)))) _).trans (((cell_far (p := ⟨gb296, _, none⟩) (by first | exact Kd.own_blk (Kd.R_ne HO292.out BK296.out (by decide)) | (rw [add_block]; exact Kd.own_blk (Kd.R_ne HO292.out BK296.out (by decide))) | (show (Addr.add _ _).block ≠ _; rw [add_block]; exact Kd.own_blk (Kd.R_ne HO292.out BK296.out (by decide))) | (dsimp only; exact Kd.own_blk (Kd.R_ne HO292.out BK296.out (by decide)))) _).trans (((cell_far (p := ⟨gb296, _, none⟩) (by first | exact Kd.own_blk (Kd.R_ne HO292.out BK296.out (by decide)) | (rw [add_block]; exact Kd.own_blk (Kd.R_ne HO292.out BK296.out (by decide))) | (show (Addr.add _ _).block ≠ _; rw [add_block]; exact Kd.own_blk (Kd.R_ne HO292.out BK296.out (by decide))) | (dsimp only; exact Kd.own_blk (Kd.R_ne HO292.out BK296.out (by decide)))) _).trans (((cell_far (p := ⟨gb296, _, none⟩) (by first | exact Kd.own_blk (Kd.R_ne HO292.out BK296.out (by decide)) | (rw [add_block]; exact Kd.own_blk (Kd.R_ne HO292.out BK296.out (by decide))) | (show (Addr.add _ _).block ≠ _; rw [add_block]; exact Kd.own_blk (Kd.R_ne HO292.out BK296.out (by decide))) | (dsimp only; exact Kd.own_blk (Kd.R_ne HO292.out BK296.out (by decide)))) _).trans (((cell_far (p := ⟨gb296, _, none⟩) (by first | exact Kd.own_blk (Kd.R_ne HO292.out BK296.out (by decide)) | (rw [add_block]; exact Kd.own_blk (Kd.R_ne HO292.out BK296.out (by decide))) | (show (Addr.add _ _).block ≠ _; rw [add_block]; exact Kd.own_blk (Kd.R_ne HO292.out BK296.out (by decide))) | (dsimp only; exact Kd.own_blk (Kd.R_ne HO292.out BK296.out (by decide)))) _).trans (((cell_far (p := ⟨gb296, _, none⟩) (by first | exact Kd.own_blk (Kd.R_ne HO292.out BK296.out (by decide)) | (rw [add_block]; exact Kd.own_blk (Kd.R_ne HO292.out BK296.out (by decide))) | (show (Addr.add _ _).block ≠ _; rw [add_block]; exact Kd.own_blk (Kd.R_ne HO292.out BK296.out (by decide))) | (dsimp only; exact Kd.own_blk (Kd.R_ne HO292.out BK296.out (by decide)))) _).trans (((cell_far (p := ⟨gb296, _, none⟩) (by first | exact Kd.own_blk (Kd.R_ne HO292.out BK296.out (by decide)) | (rw [add_block]; exact Kd.own_blk (Kd.R_ne HO292.out BK296.out (by decide))) | (show (Addr.add _ _).block ≠ _; rw [add_block]; exact Kd.own_blk (Kd.R_ne HO292.out BK296.out (by decide))) | (dsimp only; exact Kd.own_blk (Kd.R_ne HO292.out BK296.out (by decide)))) _).trans (hHeld.2.2))))))))))))))⟩ (fun hHeld => ?_)
          clear hK K
          refine done_ (done_of HT_.out (by kernel_rfl)) ?_
          go_upto_region 8 with (first | ((with_reducible refine gate_callee (f := 22) rfl ?_); refine goesL_ (some 31) rfl rfl Try.func22 (by kernel_rfl) rfl #[.slice A0 l0.length c0, .int .i64 t290, .int .i64 16] rfl (by (try simp only [List.map_toArray, List.map_cons, List.map_nil]); first | done | rfl | (simp only [List.length_drop, List.length_take]; rfl)) ?_; (with_reducible refine (prebendref03_Word.calls k _ _ l0 t290 16 t297 t298 _ ?side1 ?side2 A10.out).mono ?_); (case side1 => exact Kd.C_below HR0.out (by repeat (first | (with_reducible first | exact HB.out | apply below_alloc | apply pw_below_drewN | apply below_drew1 | refine below_set ?_ GE288.out | refine below_set ?_ GE296.out) | exact HB.out))); (case side2 => exact HC0.out); rintro e w' ⟨rfl, ⟨nd, rfl⟩⟩; refine ⟨_, rfl, ?_⟩; have hnb26 := NB296_288.out; have hnc26 := NB288_296.out; have hcz27_0 : w18.cell? ⟨gb296, 0, none⟩ = some (.int .i64 0) := (blk_cell BK296.out 0).trans rfl; have hcz27_1 : w18.cell? ⟨gb296, 1, none⟩ = some (.int .i64 0) := (blk_cell BK296.out 1).trans rfl; have hcz27_2 : w18.cell? ⟨gb296, 2, none⟩ = some (.int .i64 0) := (blk_cell BK296.out 2).trans rfl; have hcz27_3 : w18.cell? ⟨gb296, 3, none⟩ = some (.string (⟨#[]⟩ : ByteArray)) := (blk_cell BK296.out 3).trans rfl; have hcz27_4 : w18.cell? ⟨gb296, 4, none⟩ = some (.string (⟨#[]⟩ : ByteArray)) := (blk_cell BK296.out 4).trans rfl; have hcz27_5 : w18.cell? ⟨gb296, 5, none⟩ = some (.slice none 0 0) := (blk_cell BK296.out 5).trans rfl; have hcz27_6 : w18.cell? ⟨gb296, 6, none⟩ = some (.slice none 0 0) := (blk_cell BK296.out 6).trans rfl; have hfz27_0 := blk_frozen BK296.out 0; have hfz27_1 := blk_frozen BK296.out 1; have hfz27_2 := blk_frozen BK296.out 2; have hfz27_3 := blk_frozen BK296.out 3; have hfz27_4 := blk_frozen BK296.out 4; have hfz27_5 := blk_frozen BK296.out 5; have hfz27_6 := blk_frozen BK296.out 6) | ((with_reducible refine gate_callee (f := 22) rfl ?_); refine goesL_ (some 38) rfl rfl Try.func22 (by kernel_rfl) rfl #[.slice A0 l0.length c0, .int .i64 t298, .int .i64 16] rfl (by (try simp only [List.map_toArray, List.map_cons, List.map_nil]); first | done | rfl | (simp only [List.length_drop, List.length_take]; rfl)) ?_; (with_reducible refine (prebendref03_Word.calls k _ _ l0 t298 16 t299 t300 _ ?side1 ?side2 A11.out).mono ?_); (case side1 => exact Kd.C_below HR0.out (by repeat (first | (with_reducible first | exact HB.out | apply below_alloc | apply pw_below_drewN | apply below_drew1 | refine below_set ?_ GE288.out | refine below_set ?_ GE296.out) | exact HB.out))); (case side2 => exact HC0.out); rintro e w' ⟨rfl, ⟨nd, rfl⟩⟩; refine ⟨_, rfl, ?_⟩) | ((with_reducible refine gate_callee (f := 24) rfl ?_); refine goesL_ (some 45) rfl rfl Try.func24 (by kernel_rfl) rfl #[.slice A0 l0.length c0, .int .i64 t300] rfl (by (try simp only [List.map_toArray, List.map_cons, List.map_nil]); first | done | rfl | (simp only [List.length_drop, List.length_take]; rfl)) ?_; (with_reducible refine (prebendref03_Number.calls k _ _ l0 t300 t301 t302 _ ?side1 ?side2 A12.out).mono ?_); (case side1 => exact Kd.C_below HR0.out (by repeat (first | (with_reducible first | exact HB.out | apply below_alloc | apply pw_below_drewN | apply below_drew1 | refine below_set ?_ GE288.out | refine below_set ?_ GE296.out) | exact HB.out))); (case side2 => exact HC0.out); rintro e w' ⟨rfl, ⟨nd, rfl⟩⟩; refine ⟨_, rfl, ?_⟩))
          (try simp only [Act.put, List.setIfInBounds_toArray, List.set_cons_zero, List.set_cons_succ])
          go_cut [57] (fun v57 wc => ∃ (kq : Nat) (x57_12 : Bool), v57 = .bool x57_12 ∧ Aside0 (prebendref12_Decode.j0 kq l0 t302 t301 x57_12 (rd t289 0) (rd t289 1) (rd t289 2) t297 t299 = some (r1, r2, r3, r4, r5, r6, r7, r8)) ∧ Aside0 (kq ≤ k) ∧ Aside0 (wc.heap[gb288]? = some (.cells #[.int .i64 0, .int .i64 0, .int .i64 0, .string (⟨#[]⟩ : ByteArray), .string (⟨#[]⟩ : ByteArray), (.slice none 0 0), (.slice none 0 0)] 50 (0, 0))) ∧ Aside0 (wc.heap[gb296]? = some (.cells #[.int .i64 (rd t289 0), .int .i64 (rd t289 1), .int .i64 (rd t289 2), .string t297, .string t299, (.slice none 0 0), (.slice none 0 0)] 50 (0, 0))) ∧ Aside0 (Below w.heap.size w wc))
          case first =>
            have H := HC13.out
            clear HC13
            by_cases c28 : t302 < 0
            · rw [if_pos c28] at H
              have c28b0 : decide (t302 < 0) = true := decide_eq_true c28
              clear c28
              (first | rw [c28b0] | (simp only [i64_w, i32_w]; rw [c28b0]) | skip)
              have H' := Aside0.mk H
              clear H
              go_wp2
              go_meet
              case rel => exact ⟨_, (true), (by first | rfl | (simp; done) | (simp [*]; done)), H', ⟨by first | omega | exact Nat.le_refl _⟩, ⟨by (with_reducible repeat (first | refine blk_drewN ?_ _ | refine blk_drew ?_ | refine blk_alloc ?_ _)); refine blk_far ?_ NB288_296.out _; (with_reducible repeat (first | refine blk_drewN ?_ _ | refine blk_drew ?_ | refine blk_alloc ?_ _)); refine blk_far ?_ NB288_296.out _; (with_reducible repeat (first | refine blk_drewN ?_ _ | refine blk_drew ?_ | refine blk_alloc ?_ _)); refine blk_far ?_ NB288_296.out _; (with_reducible repeat (first | refine blk_drewN ?_ _ | refine blk_drew ?_ | refine blk_alloc ?_ _)); refine blk_far ?_ NB288_296.out _; (with_reducible repeat (first | refine blk_drewN ?_ _ | refine blk_drew ?_ | refine blk_alloc ?_ _)); refine blk_far ?_ NB288_296.out _; (with_reducible repeat (first | refine blk_drewN ?_ _ | refine blk_drew ?_ | refine blk_alloc ?_ _)); refine blk_far ?_ NB288_296.out _; (with_reducible repeat (first | refine blk_drewN ?_ _ | refine blk_drew ?_ | refine blk_alloc ?_ _)); refine blk_far ?_ NB288_296.out _; (with_reducible repeat (first | refine blk_drewN ?_ _ | refine blk_drew ?_ | refine blk_alloc ?_ _)); refine blk_far ?_ NB288_296.out _; (with_reducible repeat (first | refine blk_drewN ?_ _ | refine blk_drew ?_ | refine blk_alloc ?_ _)); refine blk_far ?_ NB288_296.out _; (with_reducible repeat (first | refine blk_drewN ?_ _ | refine blk_drew ?_ | refine blk_alloc ?_ _)); exact BK288.out⟩, ⟨by (with_reducible repeat (first | refine blk_drewN ?_ _ | refine blk_drew ?_ | refine blk_alloc ?_ _)); refine blk_put (cs := #[.int .i64 (rd t289 0), .int .i64 (rd t289 1), .int .i64 (rd t289 2), .string t297, .string (⟨#[]⟩ : ByteArray), .slice none 0 0, .slice none 0 0]) ?_ 4 _ rfl; (with_reducible repeat (first | refine blk_drewN ?_ _ | refine blk_drew ?_ | refine blk_alloc ?_ _)); refine blk_put (cs := #[.int .i64 (rd t289 0), .int .i64 (rd t289 1), .int .i64 (rd t289 2), .string (⟨#[]⟩ : ByteArray), .string (⟨#[]⟩ : ByteArray), .slice none 0 0, .slice none 0 0]) ?_ 3 _ rfl; (with_reducible repeat (first | refine blk_drewN ?_ _ | refine blk_drew ?_ | refine blk_alloc ?_ _)); refine blk_put (cs := #[.int .i64 (rd t289 0), .int .i64 (rd t289 1), .int .i64 (rd t289 2), .string (⟨#[]⟩ : ByteArray), .string (⟨#[]⟩ : ByteArray), .slice none 0 0, .slice none 0 0]) ?_ 6 _ rfl; (with_reducible repeat (first | refine blk_drewN ?_ _ | refine blk_drew ?_ | refine blk_alloc ?_ _)); refine blk_put (cs := #[.int .i64 (rd t289 0), .int .i64 (rd t289 1), .int .i64 (rd t289 2), .string (⟨#[]⟩ : ByteArray), .string (⟨#[]⟩ : ByteArray), .slice none 0 0, .slice none 0 0]) ?_ 5 _ rfl; (with_reducible repeat (first | refine blk_drewN ?_ _ | refine blk_drew ?_ | refine blk_alloc ?_ _)); refine blk_put (cs := #[.int .i64 (rd t289 0), .int .i64 (rd t289 1), .int .i64 (rd t289 2), .string (⟨#[]⟩ : ByteArray), .string (⟨#[]⟩ : ByteArray), .slice none 0 0, .slice none 0 0]) ?_ 4 _ rfl; (with_reducible repeat (first | refine blk_drewN ?_ _ | refine blk_drew ?_ | refine blk_alloc ?_ _)); refine blk_put (cs := #[.int .i64 (rd t289 0), .int .i64 (rd t289 1), .int .i64 (rd t289 2), .string (⟨#[]⟩ : ByteArray), .string (⟨#[]⟩ : ByteArray), .slice none 0 0, .slice none 0 0]) ?_ 3 _ rfl; (with_reducible repeat (first | refine blk_drewN ?_ _ | refine blk_drew ?_ | refine blk_alloc ?_ _)); refine blk_put (cs := #[.int .i64 (rd t289 0), .int .i64 (rd t289 1), .int .i64 0, .string (⟨#[]⟩ : ByteArray), .string (⟨#[]⟩ : ByteArray), .slice none 0 0, .slice none 0 0]) ?_ 2 _ rfl; (with_reducible repeat (first | refine blk_drewN ?_ _ | refine blk_drew ?_ | refine blk_alloc ?_ _)); refine blk_put (cs := #[.int .i64 (rd t289 0), .int .i64 0, .int .i64 0, .string (⟨#[]⟩ : ByteArray), .string (⟨#[]⟩ : ByteArray), .slice none 0 0, .slice none 0 0]) ?_ 1 _ rfl; (with_reducible repeat (first | refine blk_drewN ?_ _ | refine blk_drew ?_ | refine blk_alloc ?_ _)); refine blk_put (cs := #[.int .i64 0, .int .i64 0, .int .i64 0, .string (⟨#[]⟩ : ByteArray), .string (⟨#[]⟩ : ByteArray), .slice none 0 0, .slice none 0 0]) ?_ 0 _ rfl; (with_reducible repeat (first | refine blk_drewN ?_ _ | refine blk_drew ?_ | refine blk_alloc ?_ _)); exact BK296.out⟩, ⟨by repeat (first | (with_reducible first | exact HB.out | apply below_alloc | apply pw_below_drewN | apply below_drew1 | refine below_set ?_ GE288.out | refine below_set ?_ GE296.out) | exact HB.out)⟩⟩
            · rw [if_neg c28] at H
              have c28b0 : decide (t302 < 0) = false := decide_eq_false c28
              clear c28
              (first | rw [c28b0] | (simp only [i64_w, i32_w]; rw [c28b0]) | skip)
              by_cases c29 : t301 < 0
              · rw [if_pos c29] at H
                have c29b0 : decide (t301 < 0) = true := decide_eq_true c29
                clear c29
                have H' := Aside0.mk H
                clear H
                go_wp2
                go_meet
                case rel => exact ⟨_, (true), (by first | rfl | (simp; done) | (simp [*]; done)), H', ⟨by first | omega | exact Nat.le_refl _⟩, ⟨by (with_reducible repeat (first | refine blk_drewN ?_ _ | refine blk_drew ?_ | refine blk_alloc ?_ _)); refine blk_far ?_ NB288_296.out _; (with_reducible repeat (first | refine blk_drewN ?_ _ | refine blk_drew ?_ | refine blk_alloc ?_ _)); refine blk_far ?_ NB288_296.out _; (with_reducible repeat (first | refine blk_drewN ?_ _ | refine blk_drew ?_ | refine blk_alloc ?_ _)); refine blk_far ?_ NB288_296.out _; (with_reducible repeat (first | refine blk_drewN ?_ _ | refine blk_drew ?_ | refine blk_alloc ?_ _)); refine blk_far ?_ NB288_296.out _; (with_reducible repeat (first | refine blk_drewN ?_ _ | refine blk_drew ?_ | refine blk_alloc ?_ _)); refine blk_far ?_ NB288_296.out _; (with_reducible repeat (first | refine blk_drewN ?_ _ | refine blk_drew ?_ | refine blk_alloc ?_ _)); refine blk_far ?_ NB288_296.out _; (with_reducible repeat (first | refine blk_drewN ?_ _ | refine blk_drew ?_ | refine blk_alloc ?_ _)); refine blk_far ?_ NB288_296.out _; (with_reducible repeat (first | refine blk_drewN ?_ _ | refine blk_drew ?_ | refine blk_alloc ?_ _)); refine blk_far ?_ NB288_296.out _; (with_reducible repeat (first | refine blk_drewN ?_ _ | refine blk_drew ?_ | refine blk_alloc ?_ _)); refine blk_far ?_ NB288_296.out _; (with_reducible repeat (first | refine blk_drewN ?_ _ | refine blk_drew ?_ | refine blk_alloc ?_ _)); exact BK288.out⟩, ⟨by (with_reducible repeat (first | refine blk_drewN ?_ _ | refine blk_drew ?_ | refine blk_alloc ?_ _)); refine blk_put (cs := #[.int .i64 (rd t289 0), .int .i64 (rd t289 1), .int .i64 (rd t289 2), .string t297, .string (⟨#[]⟩ : ByteArray), .slice none 0 0, .slice none 0 0]) ?_ 4 _ rfl; (with_reducible repeat (first | refine blk_drewN ?_ _ | refine blk_drew ?_ | refine blk_alloc ?_ _)); refine blk_put (cs := #[.int .i64 (rd t289 0), .int .i64 (rd t289 1), .int .i64 (rd t289 2), .string (⟨#[]⟩ : ByteArray), .string (⟨#[]⟩ : ByteArray), .slice none 0 0, .slice none 0 0]) ?_ 3 _ rfl; (with_reducible repeat (first | refine blk_drewN ?_ _ | refine blk_drew ?_ | refine blk_alloc ?_ _)); refine blk_put (cs := #[.int .i64 (rd t289 0), .int .i64 (rd t289 1), .int .i64 (rd t289 2), .string (⟨#[]⟩ : ByteArray), .string (⟨#[]⟩ : ByteArray), .slice none 0 0, .slice none 0 0]) ?_ 6 _ rfl; (with_reducible repeat (first | refine blk_drewN ?_ _ | refine blk_drew ?_ | refine blk_alloc ?_ _)); refine blk_put (cs := #[.int .i64 (rd t289 0), .int .i64 (rd t289 1), .int .i64 (rd t289 2), .string (⟨#[]⟩ : ByteArray), .string (⟨#[]⟩ : ByteArray), .slice none 0 0, .slice none 0 0]) ?_ 5 _ rfl; (with_reducible repeat (first | refine blk_drewN ?_ _ | refine blk_drew ?_ | refine blk_alloc ?_ _)); refine blk_put (cs := #[.int .i64 (rd t289 0), .int .i64 (rd t289 1), .int .i64 (rd t289 2), .string (⟨#[]⟩ : ByteArray), .string (⟨#[]⟩ : ByteArray), .slice none 0 0, .slice none 0 0]) ?_ 4 _ rfl; (with_reducible repeat (first | refine blk_drewN ?_ _ | refine blk_drew ?_ | refine blk_alloc ?_ _)); refine blk_put (cs := #[.int .i64 (rd t289 0), .int .i64 (rd t289 1), .int .i64 (rd t289 2), .string (⟨#[]⟩ : ByteArray), .string (⟨#[]⟩ : ByteArray), .slice none 0 0, .slice none 0 0]) ?_ 3 _ rfl; (with_reducible repeat (first | refine blk_drewN ?_ _ | refine blk_drew ?_ | refine blk_alloc ?_ _)); refine blk_put (cs := #[.int .i64 (rd t289 0), .int .i64 (rd t289 1), .int .i64 0, .string (⟨#[]⟩ : ByteArray), .string (⟨#[]⟩ : ByteArray), .slice none 0 0, .slice none 0 0]) ?_ 2 _ rfl; (with_reducible repeat (first | refine blk_drewN ?_ _ | refine blk_drew ?_ | refine blk_alloc ?_ _)); refine blk_put (cs := #[.int .i64 (rd t289 0), .int .i64 0, .int .i64 0, .string (⟨#[]⟩ : ByteArray), .string (⟨#[]⟩ : ByteArray), .slice none 0 0, .slice none 0 0]) ?_ 1 _ rfl; (with_reducible repeat (first | refine blk_drewN ?_ _ | refine blk_drew ?_ | refine blk_alloc ?_ _)); refine blk_put (cs := #[.int .i64 0, .int .i64 0, .int .i64 0, .string (⟨#[]⟩ : ByteArray), .string (⟨#[]⟩ : ByteArray), .slice none 0 0, .slice none 0 0]) ?_ 0 _ rfl; (with_reducible repeat (first | refine blk_drewN ?_ _ | refine blk_drew ?_ | refine blk_alloc ?_ _)); exact BK296.out⟩, ⟨by repeat (first | (with_reducible first | exact HB.out | apply below_alloc | apply pw_below_drewN | apply below_drew1 | refine below_set ?_ GE288.out | refine below_set ?_ GE296.out) | exact HB.out)⟩⟩
              · rw [if_neg c29] at H
                have c29b0 : decide (t301 < 0) = false := decide_eq_false c29
                clear c29
                have H' := Aside0.mk H
                clear H
                go_wp2
                go_meet
                case rel => exact ⟨_, (decide (t301 > 8)), (by first | rfl | (simp; done) | (simp [*]; done)), H', ⟨by first | omega | exact Nat.le_refl _⟩, ⟨by (with_reducible repeat (first | refine blk_drewN ?_ _ | refine blk_drew ?_ | refine blk_alloc ?_ _)); refine blk_far ?_ NB288_296.out _; (with_reducible repeat (first | refine blk_drewN ?_ _ | refine blk_drew ?_ | refine blk_alloc ?_ _)); refine blk_far ?_ NB288_296.out _; (with_reducible repeat (first | refine blk_drewN ?_ _ | refine blk_drew ?_ | refine blk_alloc ?_ _)); refine blk_far ?_ NB288_296.out _; (with_reducible repeat (first | refine blk_drewN ?_ _ | refine blk_drew ?_ | refine blk_alloc ?_ _)); refine blk_far ?_ NB288_296.out _; (with_reducible repeat (first | refine blk_drewN ?_ _ | refine blk_drew ?_ | refine blk_alloc ?_ _)); refine blk_far ?_ NB288_296.out _; (with_reducible repeat (first | refine blk_drewN ?_ _ | refine blk_drew ?_ | refine blk_alloc ?_ _)); refine blk_far ?_ NB288_296.out _; (with_reducible repeat (first | refine blk_drewN ?_ _ | refine blk_drew ?_ | refine blk_alloc ?_ _)); refine blk_far ?_ NB288_296.out _; (with_reducible repeat (first | refine blk_drewN ?_ _ | refine blk_drew ?_ | refine blk_alloc ?_ _)); refine blk_far ?_ NB288_296.out _; (with_reducible repeat (first | refine blk_drewN ?_ _ | refine blk_drew ?_ | refine blk_alloc ?_ _)); refine blk_far ?_ NB288_296.out _; (with_reducible repeat (first | refine blk_drewN ?_ _ | refine blk_drew ?_ | refine blk_alloc ?_ _)); exact BK288.out⟩, ⟨by (with_reducible repeat (first | refine blk_drewN ?_ _ | refine blk_drew ?_ | refine blk_alloc ?_ _)); refine blk_put (cs := #[.int .i64 (rd t289 0), .int .i64 (rd t289 1), .int .i64 (rd t289 2), .string t297, .string (⟨#[]⟩ : ByteArray), .slice none 0 0, .slice none 0 0]) ?_ 4 _ rfl; (with_reducible repeat (first | refine blk_drewN ?_ _ | refine blk_drew ?_ | refine blk_alloc ?_ _)); refine blk_put (cs := #[.int .i64 (rd t289 0), .int .i64 (rd t289 1), .int .i64 (rd t289 2), .string (⟨#[]⟩ : ByteArray), .string (⟨#[]⟩ : ByteArray), .slice none 0 0, .slice none 0 0]) ?_ 3 _ rfl; (with_reducible repeat (first | refine blk_drewN ?_ _ | refine blk_drew ?_ | refine blk_alloc ?_ _)); refine blk_put (cs := #[.int .i64 (rd t289 0), .int .i64 (rd t289 1), .int .i64 (rd t289 2), .string (⟨#[]⟩ : ByteArray), .string (⟨#[]⟩ : ByteArray), .slice none 0 0, .slice none 0 0]) ?_ 6 _ rfl; (with_reducible repeat (first | refine blk_drewN ?_ _ | refine blk_drew ?_ | refine blk_alloc ?_ _)); refine blk_put (cs := #[.int .i64 (rd t289 0), .int .i64 (rd t289 1), .int .i64 (rd t289 2), .string (⟨#[]⟩ : ByteArray), .string (⟨#[]⟩ : ByteArray), .slice none 0 0, .slice none 0 0]) ?_ 5 _ rfl; (with_reducible repeat (first | refine blk_drewN ?_ _ | refine blk_drew ?_ | refine blk_alloc ?_ _)); refine blk_put (cs := #[.int .i64 (rd t289 0), .int .i64 (rd t289 1), .int .i64 (rd t289 2), .string (⟨#[]⟩ : ByteArray), .string (⟨#[]⟩ : ByteArray), .slice none 0 0, .slice none 0 0]) ?_ 4 _ rfl; (with_reducible repeat (first | refine blk_drewN ?_ _ | refine blk_drew ?_ | refine blk_alloc ?_ _)); refine blk_put (cs := #[.int .i64 (rd t289 0), .int .i64 (rd t289 1), .int .i64 (rd t289 2), .string (⟨#[]⟩ : ByteArray), .string (⟨#[]⟩ : ByteArray), .slice none 0 0, .slice none 0 0]) ?_ 3 _ rfl; (with_reducible repeat (first | refine blk_drewN ?_ _ | refine blk_drew ?_ | refine blk_alloc ?_ _)); refine blk_put (cs := #[.int .i64 (rd t289 0), .int .i64 (rd t289 1), .int .i64 0, .string (⟨#[]⟩ : ByteArray), .string (⟨#[]⟩ : ByteArray), .slice none 0 0, .slice none 0 0]) ?_ 2 _ rfl; (with_reducible repeat (first | refine blk_drewN ?_ _ | refine blk_drew ?_ | refine blk_alloc ?_ _)); refine blk_put (cs := #[.int .i64 (rd t289 0), .int .i64 0, .int .i64 0, .string (⟨#[]⟩ : ByteArray), .string (⟨#[]⟩ : ByteArray), .slice none 0 0, .slice none 0 0]) ?_ 1 _ rfl; (with_reducible repeat (first | refine blk_drewN ?_ _ | refine blk_drew ?_ | refine blk_alloc ?_ _)); refine blk_put (cs := #[.int .i64 0, .int .i64 0, .int .i64 0, .string (⟨#[]⟩ : ByteArray), .string (⟨#[]⟩ : ByteArray), .slice none 0 0, .slice none 0 0]) ?_ 0 _ rfl; (with_reducible repeat (first | refine blk_drewN ?_ _ | refine blk_drew ?_ | refine blk_alloc ?_ _)); exact BK296.out⟩, ⟨by repeat (first | (with_reducible first | exact HB.out | apply below_alloc | apply pw_below_drewN | apply below_drew1 | refine below_set ?_ GE288.out | refine below_set ?_ GE296.out) | exact HB.out)⟩⟩
          case rest =>
            clear HC13
            try clear c2
            try clear p2
            try clear q2
            try clear hx2
            try clear qi2
            try clear c3
            try clear c3b0
            try clear c4
            try clear c7
            try clear c7b0
            try clear c7b1
            try clear c8
            try clear c8b0
            try clear c8b1
            try clear c9
            try clear c9b0
            try clear c9b1
            try clear c22
            try clear c24
            try clear c26
            try clear c28
            try clear c28b0
            try clear c29
            try clear c29b0
            try clear p29
            try clear q29
            try clear hx29
            try clear qi29
            try clear hcz27_0
            try clear hcz27_1
            try clear hcz27_2
            try clear hcz27_3
            try clear hcz27_4
            try clear hcz27_5
            try clear hcz27_6
            try clear hcz6_0
            try clear hcz6_1
            try clear hcz6_2
            try clear hcz6_3
            try clear hcz6_4
            try clear hcz6_5
            try clear hcz6_6
            try clear hfz27_0
            try clear hfz27_1
            try clear hfz27_2
            try clear hfz27_3
            try clear hfz27_4
            try clear hfz27_5
            try clear hfz27_6
            try clear hfz6_0
            try clear hfz6_1
            try clear hfz6_2
            try clear hfz6_3
            try clear hfz6_4
            try clear hfz6_5
            try clear hfz6_6
            try clear hx293_0
            try clear hx294_0
            try clear hx295_0
            try clear p293
            try clear p294
            try clear p295
            try clear q293
            try clear q294
            try clear q295
            obtain ⟨kq, x57_12, rfl, HA, HJ12, BK288, BK296, HB⟩ := hcut
            cases kq with
            | zero => exact absurd HA.out (by simp [prebendref12_Decode.j0])
            | succ kj12 =>
              have H := HA.out
              clear HA
              simp only [prebendref12_Decode.j0] at H
              by_cases c30 : x57_12 = true
              · subst c30
                have H1 : (some (0, 0, 0, (⟨#[]⟩ : ByteArray), (⟨#[]⟩ : ByteArray), ([] : List Int), ([] : List (S87)), 3)) = some (r1, r2, r3, r4, r5, r6, r7, r8) := by rw [if_pos rfl] at H; exact H
                clear H
                have H := H1
                clear H1
                simp only [Option.some.injEq, Prod.mk.injEq] at H
                obtain ⟨rfl, rfl, rfl, rfl, rfl, rfl, rfl, rfl⟩ := H
                have hnb31 := NB288_296.out
                have hnc31 := NB296_288.out
                have hcz32_0 : wc.cell? ⟨gb288, 0, none⟩ = some (.int .i64 0) := (blk_cell BK288.out 0).trans rfl
                have hcz32_1 : wc.cell? ⟨gb288, 1, none⟩ = some (.int .i64 0) := (blk_cell BK288.out 1).trans rfl
                have hcz32_2 : wc.cell? ⟨gb288, 2, none⟩ = some (.int .i64 0) := (blk_cell BK288.out 2).trans rfl
                have hcz32_3 : wc.cell? ⟨gb288, 3, none⟩ = some (.string (⟨#[]⟩ : ByteArray)) := (blk_cell BK288.out 3).trans rfl
                have hcz32_4 : wc.cell? ⟨gb288, 4, none⟩ = some (.string (⟨#[]⟩ : ByteArray)) := (blk_cell BK288.out 4).trans rfl
                have hcz32_5 : wc.cell? ⟨gb288, 5, none⟩ = some (.slice none 0 0) := (blk_cell BK288.out 5).trans rfl
                have hcz32_6 : wc.cell? ⟨gb288, 6, none⟩ = some (.slice none 0 0) := (blk_cell BK288.out 6).trans rfl
                have hfz32_0 := blk_frozen BK288.out 0
                have hfz32_1 := blk_frozen BK288.out 1
                have hfz32_2 := blk_frozen BK288.out 2
                have hfz32_3 := blk_frozen BK288.out 3
                have hfz32_4 := blk_frozen BK288.out 4
                have hfz32_5 := blk_frozen BK288.out 5
                have hfz32_6 := blk_frozen BK288.out 6
                go_wp2
                refine bodyPost_ret (results_ct rfl _ _ gb288 50 #[.int .i64 0, .int .i64 0, .int .i64 0, .string (⟨#[]⟩ : ByteArray), .string (⟨#[]⟩ : ByteArray), .slice none 0 0, .slice none 0 0] (0, 0) _ rfl (by (with_reducible repeat (first | refine blk_drewN ?_ _ | refine blk_drew ?_ | refine blk_alloc ?_ _)); refine blk_put (cs := #[.int .i64 0, .int .i64 0, .int .i64 0, .string (⟨#[]⟩ : ByteArray), .string (⟨#[]⟩ : ByteArray), .slice none 0 0, .slice none 0 0]) ?_ 6 _ rfl; (with_reducible repeat (first | refine blk_drewN ?_ _ | refine blk_drew ?_ | refine blk_alloc ?_ _)); refine blk_put (cs := #[.int .i64 0, .int .i64 0, .int .i64 0, .string (⟨#[]⟩ : ByteArray), .string (⟨#[]⟩ : ByteArray), .slice none 0 0, .slice none 0 0]) ?_ 5 _ rfl; (with_reducible repeat (first | refine blk_drewN ?_ _ | refine blk_drew ?_ | refine blk_alloc ?_ _)); refine blk_put (cs := #[.int .i64 0, .int .i64 0, .int .i64 0, .string (⟨#[]⟩ : ByteArray), .string (⟨#[]⟩ : ByteArray), .slice none 0 0, .slice none 0 0]) ?_ 4 _ rfl; (with_reducible repeat (first | refine blk_drewN ?_ _ | refine blk_drew ?_ | refine blk_alloc ?_ _)); refine blk_put (cs := #[.int .i64 0, .int .i64 0, .int .i64 0, .string (⟨#[]⟩ : ByteArray), .string (⟨#[]⟩ : ByteArray), .slice none 0 0, .slice none 0 0]) ?_ 3 _ rfl; (with_reducible repeat (first | refine blk_drewN ?_ _ | refine blk_drew ?_ | refine blk_alloc ?_ _)); refine blk_put (cs := #[.int .i64 0, .int .i64 0, .int .i64 0, .string (⟨#[]⟩ : ByteArray), .string (⟨#[]⟩ : ByteArray), .slice none 0 0, .slice none 0 0]) ?_ 2 _ rfl; (with_reducible repeat (first | refine blk_drewN ?_ _ | refine blk_drew ?_ | refine blk_alloc ?_ _)); refine blk_put (cs := #[.int .i64 0, .int .i64 0, .int .i64 0, .string (⟨#[]⟩ : ByteArray), .string (⟨#[]⟩ : ByteArray), .slice none 0 0, .slice none 0 0]) ?_ 1 _ rfl; (with_reducible repeat (first | refine blk_drewN ?_ _ | refine blk_drew ?_ | refine blk_alloc ?_ _)); refine blk_put (cs := #[.int .i64 0, .int .i64 0, .int .i64 0, .string (⟨#[]⟩ : ByteArray), .string (⟨#[]⟩ : ByteArray), .slice none 0 0, .slice none 0 0]) ?_ 0 _ rfl; (with_reducible repeat (first | refine blk_drewN ?_ _ | refine blk_drew ?_ | refine blk_alloc ?_ _)); exact BK288.out) Try.underlying50 rfl (by kernel_rfl)) rfl ?_
                exact ⟨_, _, by first | rfl | (simp [errW_none, errW_some] <;> rfl) | (simp [*, errW_none, errW_some] <;> rfl), by first | exact Kd.R_nil _ _ _ _ _ | exact Kd.N_nil _ _ _ _ _ | exact Kd.V_nil _ _ _ _ _ | exact Kd.Q_nil _ _ _ _ _ | exact Kd.S_nil _ _ _ _ _, by first | exact Kd.R_nil _ _ _ _ _ | exact Kd.N_nil _ _ _ _ _ | exact Kd.V_nil _ _ _ _ _ | exact Kd.Q_nil _ _ _ _ _ | exact Kd.S_nil _ _ _ _ _, by repeat (first | (with_reducible first | exact HB.out | apply below_alloc | apply pw_below_drewN | apply below_drew1 | refine below_set ?_ GE288.out | refine below_set ?_ GE296.out) | exact HB.out)⟩
              · replace c30 := Bool.eq_false_iff.mpr c30
                subst c30
                have H1 : ((prebendref12_numbers.f kj12 l0 t302 t301).bind fun bt303 => (if bt303.2 < 0 then (some (0, 0, 0, (⟨#[]⟩ : ByteArray), (⟨#[]⟩ : ByteArray), ([] : List Int), ([] : List (S87)), 3)) else ((prebendref03_Number.f kj12 l0 bt303.2).bind fun bt307 => (if bt307.2 < 0 then (prebendref12_Decode.j1 kj12 l0 bt307.2 bt307.1 true (rd t289 0) (rd t289 1) (rd t289 2) t297 t299 bt303.1) else (if bt307.1 < 0 then (prebendref12_Decode.j1 kj12 l0 bt307.2 bt307.1 true (rd t289 0) (rd t289 1) (rd t289 2) t297 t299 bt303.1) else (prebendref12_Decode.j1 kj12 l0 bt307.2 bt307.1 (decide (bt307.1 > 64)) (rd t289 0) (rd t289 1) (rd t289 2) t297 t299 bt303.1)))))) = some (r1, r2, r3, r4, r5, r6, r7, r8) := by rw [if_neg (show ¬ (false = true) by decide)] at H; exact H
                clear H
                have H := H1
                clear H1
                replace H := Option.bind_eq_some_iff.mp H
                obtain ⟨⟨t303, t304⟩, A330, H⟩ := H
                replace H : (if t304 < 0 then (some (0, 0, 0, (⟨#[]⟩ : ByteArray), (⟨#[]⟩ : ByteArray), ([] : List Int), ([] : List (S87)), 3)) else ((prebendref03_Number.f kj12 l0 t304).bind fun bt307 => (if bt307.2 < 0 then (prebendref12_Decode.j1 kj12 l0 bt307.2 bt307.1 true (rd t289 0) (rd t289 1) (rd t289 2) t297 t299 t303) else (if bt307.1 < 0 then (prebendref12_Decode.j1 kj12 l0 bt307.2 bt307.1 true (rd t289 0) (rd t289 1) (rd t289 2) t297 t299 t303) else (prebendref12_Decode.j1 kj12 l0 bt307.2 bt307.1 (decide (bt307.1 > 64)) (rd t289 0) (rd t289 1) (rd t289 2) t297 t299 t303))))) = some (r1, r2, r3, r4, r5, r6, r7, r8) := H
                have A33 := Aside0.mk A330
                clear A330
                by_cases c34 : t304 < 0
                · rw [if_pos c34] at H
                  have c34b0 : decide (t304 < 0) = true := decide_eq_true c34
                  clear c34
                  simp only [Option.some.injEq, Prod.mk.injEq] at H
                  obtain ⟨rfl, rfl, rfl, rfl, rfl, rfl, rfl, rfl⟩ := H
                  go_wp2_with (first | ((with_reducible refine gate_callee (f := 47) rfl ?_); refine goesL_ (some 63) rfl rfl Try.func47 (by kernel_rfl) rfl #[.slice A0 l0.length c0, .int .i64 t302, .int .i64 t301] rfl (by (try simp only [List.map_toArray, List.map_cons, List.map_nil]); first | done | rfl | (simp only [List.length_drop, List.length_take]; rfl)) ?_; (with_reducible refine (prebendref12_numbers.calls kj12 _ _ l0 t302 t301 t303 t304 _ ?side1 ?side2 A33.out).mono ?_); (case side1 => repeat (first | exact (Kd.C_below HR0.out HB.out) | (with_reducible refine Kd.C_alloc ?_ _) | (with_reducible refine Kd.C_drewN ?_ _) | (with_reducible refine Kd.C_drew ?_))); (case side2 => exact HC0.out); rintro e w35 ⟨v305, rfl, ho0, hb⟩; refine ⟨_, rfl, ?_⟩; have n0_ := Aside0.mk (Kd.R_lower ho0 (below_size (by repeat (first | (with_reducible first | exact HB.out | apply below_alloc | apply pw_below_drewN | apply below_drew1 | refine below_set ?_ GE288.out | refine below_set ?_ GE296.out) | exact HB.out)))); have n1_ := Aside0.mk (blk_below (g := gb288) (o := .cells #[.int .i64 0, .int .i64 0, .int .i64 0, .string (⟨#[]⟩ : ByteArray), .string (⟨#[]⟩ : ByteArray), .slice none 0 0, .slice none 0 0] 50 (0, 0)) (by (with_reducible repeat (first | refine blk_drewN ?_ _ | refine blk_drew ?_ | refine blk_alloc ?_ _)); exact BK288.out) hb); have n2_ := Aside0.mk (blk_below (g := gb296) (o := .cells #[.int .i64 (rd t289 0), .int .i64 (rd t289 1), .int .i64 (rd t289 2), .string t297, .string t299, .slice none 0 0, .slice none 0 0] 50 (0, 0)) (by (with_reducible repeat (first | refine blk_drewN ?_ _ | refine blk_drew ?_ | refine blk_alloc ?_ _)); exact BK296.out) hb); have n3_ := Aside0.mk (below_step (by repeat (first | (with_reducible first | exact HB.out | apply below_alloc | apply pw_below_drewN | apply below_drew1 | refine below_set ?_ GE288.out | refine below_set ?_ GE296.out) | exact HB.out)) hb); clear BK288; clear BK296; clear HB; have HO306 := n0_; have BK288 := n1_; have BK296 := n2_; have HB := n3_; clear n0_ n1_ n2_ n3_; (try clear hb); (try clear hb2); (try clear hk); (try clear hi); (try clear ho0); obtain ⟨Ao36, co36, eo36⟩ := Kd.R_slice HO306.out; subst eo36; have hnb37 := NB296_288.out; have hnc37 := NB288_296.out; have hcz38_0 : w35.cell? ⟨gb296, 0, none⟩ = some (.int .i64 (rd t289 0)) := (blk_cell BK296.out 0).trans rfl; have hcz38_1 : w35.cell? ⟨gb296, 1, none⟩ = some (.int .i64 (rd t289 1)) := (blk_cell BK296.out 1).trans rfl; have hcz38_2 : w35.cell? ⟨gb296, 2, none⟩ = some (.int .i64 (rd t289 2)) := (blk_cell BK296.out 2).trans rfl; have hcz38_3 : w35.cell? ⟨gb296, 3, none⟩ = some (.string t297) := (blk_cell BK296.out 3).trans rfl; have hcz38_4 : w35.cell? ⟨gb296, 4, none⟩ = some (.string t299) := (blk_cell BK296.out 4).trans rfl; have hcz38_5 : w35.cell? ⟨gb296, 5, none⟩ = some (.slice none 0 0) := (blk_cell BK296.out 5).trans rfl; have hcz38_6 : w35.cell? ⟨gb296, 6, none⟩ = some (.slice none 0 0) := (blk_cell BK296.out 6).trans rfl; have hfz38_0 := blk_frozen BK296.out 0; have hfz38_1 := blk_frozen BK296.out 1; have hfz38_2 := blk_frozen BK296.out 2; have hfz38_3 := blk_frozen BK296.out 3; have hfz38_4 := blk_frozen BK296.out 4; have hfz38_5 := blk_frozen BK296.out 5; have hfz38_6 := blk_frozen BK296.out 6; have hcz39_0 : w35.cell? ⟨gb288, 0, none⟩ = some (.int .i64 0) := (blk_cell BK288.out 0).trans rfl; have hcz39_1 : w35.cell? ⟨gb288, 1, none⟩ = some (.int .i64 0) := (blk_cell BK288.out 1).trans rfl; have hcz39_2 : w35.cell? ⟨gb288, 2, none⟩ = some (.int .i64 0) := (blk_cell BK288.out 2).trans rfl; have hcz39_3 : w35.cell? ⟨gb288, 3, none⟩ = some (.string (⟨#[]⟩ : ByteArray)) := (blk_cell BK288.out 3).trans rfl; have hcz39_4 : w35.cell? ⟨gb288, 4, none⟩ = some (.string (⟨#[]⟩ : ByteArray)) := (blk_cell BK288.out 4).trans rfl; have hcz39_5 : w35.cell? ⟨gb288, 5, none⟩ = some (.slice none 0 0) := (blk_cell BK288.out 5).trans rfl; have hcz39_6 : w35.cell? ⟨gb288, 6, none⟩ = some (.slice none 0 0) := (blk_cell BK288.out 6).trans rfl; have hfz39_0 := blk_frozen BK288.out 0; have hfz39_1 := blk_frozen BK288.out 1; have hfz39_2 := blk_frozen BK288.out 2; have hfz39_3 := blk_frozen BK288.out 3; have hfz39_4 := blk_frozen BK288.out 4; have hfz39_5 := blk_frozen BK288.out 5; have hfz39_6 := blk_frozen BK288.out 6))
                  refine bodyPost_ret (results_ct rfl _ _ gb288 50 #[.int .i64 0, .int .i64 0, .int .i64 0, .string (⟨#[]⟩ : ByteArray), .string (⟨#[]⟩ : ByteArray), .slice none 0 0, .slice none 0 0] (0, 0) _ rfl (by (with_reducible repeat (first | refine blk_drewN ?_ _ | refine blk_drew ?_ | refine blk_alloc ?_ _)); refine blk_put (cs := #[.int .i64 0, .int .i64 0, .int .i64 0, .string (⟨#[]⟩ : ByteArray), .string (⟨#[]⟩ : ByteArray), .slice none 0 0, .slice none 0 0]) ?_ 6 _ rfl; (with_reducible repeat (first | refine blk_drewN ?_ _ | refine blk_drew ?_ | refine blk_alloc ?_ _)); refine blk_put (cs := #[.int .i64 0, .int .i64 0, .int .i64 0, .string (⟨#[]⟩ : ByteArray), .string (⟨#[]⟩ : ByteArray), .slice none 0 0, .slice none 0 0]) ?_ 5 _ rfl; (with_reducible repeat (first | refine blk_drewN ?_ _ | refine blk_drew ?_ | refine blk_alloc ?_ _)); refine blk_put (cs := #[.int .i64 0, .int .i64 0, .int .i64 0, .string (⟨#[]⟩ : ByteArray), .string (⟨#[]⟩ : ByteArray), .slice none 0 0, .slice none 0 0]) ?_ 4 _ rfl; (with_reducible repeat (first | refine blk_drewN ?_ _ | refine blk_drew ?_ | refine blk_alloc ?_ _)); refine blk_put (cs := #[.int .i64 0, .int .i64 0, .int .i64 0, .string (⟨#[]⟩ : ByteArray), .string (⟨#[]⟩ : ByteArray), .slice none 0 0, .slice none 0 0]) ?_ 3 _ rfl; (with_reducible repeat (first | refine blk_drewN ?_ _ | refine blk_drew ?_ | refine blk_alloc ?_ _)); refine blk_put (cs := #[.int .i64 0, .int .i64 0, .int .i64 0, .string (⟨#[]⟩ : ByteArray), .string (⟨#[]⟩ : ByteArray), .slice none 0 0, .slice none 0 0]) ?_ 2 _ rfl; (with_reducible repeat (first | refine blk_drewN ?_ _ | refine blk_drew ?_ | refine blk_alloc ?_ _)); refine blk_put (cs := #[.int .i64 0, .int .i64 0, .int .i64 0, .string (⟨#[]⟩ : ByteArray), .string (⟨#[]⟩ : ByteArray), .slice none 0 0, .slice none 0 0]) ?_ 1 _ rfl; (with_reducible repeat (first | refine blk_drewN ?_ _ | refine blk_drew ?_ | refine blk_alloc ?_ _)); refine blk_put (cs := #[.int .i64 0, .int .i64 0, .int .i64 0, .string (⟨#[]⟩ : ByteArray), .string (⟨#[]⟩ : ByteArray), .slice none 0 0, .slice none 0 0]) ?_ 0 _ rfl; (with_reducible repeat (first | refine blk_drewN ?_ _ | refine blk_drew ?_ | refine blk_alloc ?_ _)); refine blk_far ?_ NB288_296.out _; (with_reducible repeat (first | refine blk_drewN ?_ _ | refine blk_drew ?_ | refine blk_alloc ?_ _)); exact BK288.out) Try.underlying50 rfl (by kernel_rfl)) rfl ?_
                  exact ⟨_, _, by first | rfl | (simp [errW_none, errW_some] <;> rfl) | (simp [*, errW_none, errW_some] <;> rfl), by first | exact Kd.R_nil _ _ _ _ _ | exact Kd.N_nil _ _ _ _ _ | exact Kd.V_nil _ _ _ _ _ | exact Kd.Q_nil _ _ _ _ _ | exact Kd.S_nil _ _ _ _ _, by first | exact Kd.R_nil _ _ _ _ _ | exact Kd.N_nil _ _ _ _ _ | exact Kd.V_nil _ _ _ _ _ | exact Kd.Q_nil _ _ _ _ _ | exact Kd.S_nil _ _ _ _ _, by repeat (first | (with_reducible first | exact HB.out | apply below_alloc | apply pw_below_drewN | apply below_drew1 | refine below_set ?_ GE288.out | refine below_set ?_ GE296.out) | exact HB.out)⟩
                · rw [if_neg c34] at H
                  have c34b0 : decide (t304 < 0) = false := decide_eq_false c34
                  clear c34
                  replace H := Option.bind_eq_some_iff.mp H
                  obtain ⟨⟨t307, t308⟩, A400, H⟩ := H
                  replace H : (if t308 < 0 then (prebendref12_Decode.j1 kj12 l0 t308 t307 true (rd t289 0) (rd t289 1) (rd t289 2) t297 t299 t303) else (if t307 < 0 then (prebendref12_Decode.j1 kj12 l0 t308 t307 true (rd t289 0) (rd t289 1) (rd t289 2) t297 t299 t303) else (prebendref12_Decode.j1 kj12 l0 t308 t307 (decide (t307 > 64)) (rd t289 0) (rd t289 1) (rd t289 2) t297 t299 t303))) = some (r1, r2, r3, r4, r5, r6, r7, r8) := H
                  have A40 := Aside0.mk A400
                  clear A400
                  have HC41 := Aside0.mk H
                  clear H
                  go_upto_region 14 with (first | ((with_reducible refine gate_callee (f := 47) rfl ?_); refine goesL_ (some 63) rfl rfl Try.func47 (by kernel_rfl) rfl #[.slice A0 l0.length c0, .int .i64 t302, .int .i64 t301] rfl (by (try simp only [List.map_toArray, List.map_cons, List.map_nil]); first | done | rfl | (simp only [List.length_drop, List.length_take]; rfl)) ?_; (with_reducible refine (prebendref12_numbers.calls kj12 _ _ l0 t302 t301 t303 t304 _ ?side1 ?side2 A33.out).mono ?_); (case side1 => repeat (first | exact (Kd.C_below HR0.out HB.out) | (with_reducible refine Kd.C_alloc ?_ _) | (with_reducible refine Kd.C_drewN ?_ _) | (with_reducible refine Kd.C_drew ?_))); (case side2 => exact HC0.out); rintro e w42 ⟨v305, rfl, ho0, hb⟩; refine ⟨_, rfl, ?_⟩; have n0_ := Aside0.mk (Kd.R_lower ho0 (below_size (by repeat (first | (with_reducible first | exact HB.out | apply below_alloc | apply pw_below_drewN | apply below_drew1 | refine below_set ?_ GE288.out | refine below_set ?_ GE296.out) | exact HB.out)))); have n1_ := Aside0.mk (blk_below (g := gb288) (o := .cells #[.int .i64 0, .int .i64 0, .int .i64 0, .string (⟨#[]⟩ : ByteArray), .string (⟨#[]⟩ : ByteArray), .slice none 0 0, .slice none 0 0] 50 (0, 0)) (by (with_reducible repeat (first | refine blk_drewN ?_ _ | refine blk_drew ?_ | refine blk_alloc ?_ _)); exact BK288.out) hb); have n2_ := Aside0.mk (blk_below (g := gb296) (o := .cells #[.int .i64 (rd t289 0), .int .i64 (rd t289 1), .int .i64 (rd t289 2), .string t297, .string t299, .slice none 0 0, .slice none 0 0] 50 (0, 0)) (by (with_reducible repeat (first | refine blk_drewN ?_ _ | refine blk_drew ?_ | refine blk_alloc ?_ _)); exact BK296.out) hb); have n3_ := Aside0.mk (below_step (by repeat (first | (with_reducible first | exact HB.out | apply below_alloc | apply pw_below_drewN | apply below_drew1 | refine below_set ?_ GE288.out | refine below_set ?_ GE296.out) | exact HB.out)) hb); clear BK288; clear BK296; clear HB; have HO306 := n0_; have BK288 := n1_; have BK296 := n2_; have HB := n3_; clear n0_ n1_ n2_ n3_; (try clear hb); (try clear hb2); (try clear hk); (try clear hi); (try clear ho0); obtain ⟨Ao43, co43, eo43⟩ := Kd.R_slice HO306.out; subst eo43; have hnb44 := NB296_288.out; have hnc44 := NB288_296.out; have hcz45_0 : w42.cell? ⟨gb296, 0, none⟩ = some (.int .i64 (rd t289 0)) := (blk_cell BK296.out 0).trans rfl; have hcz45_1 : w42.cell? ⟨gb296, 1, none⟩ = some (.int .i64 (rd t289 1)) := (blk_cell BK296.out 1).trans rfl; have hcz45_2 : w42.cell? ⟨gb296, 2, none⟩ = some (.int .i64 (rd t289 2)) := (blk_cell BK296.out 2).trans rfl; have hcz45_3 : w42.cell? ⟨gb296, 3, none⟩ = some (.string t297) := (blk_cell BK296.out 3).trans rfl; have hcz45_4 : w42.cell? ⟨gb296, 4, none⟩ = some (.string t299) := (blk_cell BK296.out 4).trans rfl; have hcz45_5 : w42.cell? ⟨gb296, 5, none⟩ = some (.slice none 0 0) := (blk_cell BK296.out 5).trans rfl; have hcz45_6 : w42.cell? ⟨gb296, 6, none⟩ = some (.slice none 0 0) := (blk_cell BK296.out 6).trans rfl; have hfz45_0 := blk_frozen BK296.out 0; have hfz45_1 := blk_frozen BK296.out 1; have hfz45_2 := blk_frozen BK296.out 2; have hfz45_3 := blk_frozen BK296.out 3; have hfz45_4 := blk_frozen BK296.out 4; have hfz45_5 := blk_frozen BK296.out 5; have hfz45_6 := blk_frozen BK296.out 6) | ((with_reducible refine gate_callee (f := 24) rfl ?_); refine goesL_ (some 73) rfl rfl Try.func24 (by kernel_rfl) rfl #[.slice A0 l0.length c0, .int .i64 t304] rfl (by (try simp only [List.map_toArray, List.map_cons, List.map_nil]); first | done | rfl | (simp only [List.length_drop, List.length_take]; rfl)) ?_; (with_reducible refine (prebendref03_Number.calls kj12 _ _ l0 t304 t307 t308 _ ?side1 ?side2 A40.out).mono ?_); (case side1 => exact Kd.C_below HR0.out (by repeat (first | (with_reducible first | exact HB.out | apply below_alloc | apply pw_below_drewN | apply below_drew1 | refine below_set ?_ GE288.out | refine below_set ?_ GE296.out) | exact HB.out))); (case side2 => exact HC0.out); rintro e w' ⟨rfl, ⟨nd, rfl⟩⟩; refine ⟨_, rfl, ?_⟩))
                  (try simp only [Act.put, List.setIfInBounds_toArray, List.set_cons_zero, List.set_cons_succ])
                  go_cut [85] (fun v85 wc => ∃ (kq : Nat) (x85_40 : Bool), v85 = .bool x85_40 ∧ Aside0 (prebendref12_Decode.j1 kq l0 t308 t307 x85_40 (rd t289 0) (rd t289 1) (rd t289 2) t297 t299 t303 = some (r1, r2, r3, r4, r5, r6, r7, r8)) ∧ Aside0 (kq ≤ kj12) ∧ Aside0 (Kd.R (Kd.int .i64) 3 wc w.heap.size (fun _ => True) (.slice Ao43 t303.length co43) t303) ∧ Aside0 (wc.heap[gb288]? = some (.cells #[.int .i64 0, .int .i64 0, .int .i64 0, .string (⟨#[]⟩ : ByteArray), .string (⟨#[]⟩ : ByteArray), (.slice none 0 0), (.slice none 0 0)] 50 (0, 0))) ∧ Aside0 (wc.heap[gb296]? = some (.cells #[.int .i64 (rd t289 0), .int .i64 (rd t289 1), .int .i64 (rd t289 2), .string t297, .string t299, (.slice Ao43 t303.length co43), (.slice none 0 0)] 50 (0, 0))) ∧ Aside0 (Below w.heap.size w wc))
                  case first =>
                    have H := HC41.out
                    clear HC41
                    by_cases c46 : t308 < 0
                    · rw [if_pos c46] at H
                      have c46b0 : decide (t308 < 0) = true := decide_eq_true c46
                      clear c46
                      (first | rw [c46b0] | (simp only [i64_w, i32_w]; rw [c46b0]) | skip)
                      have H' := Aside0.mk H
                      clear H
                      go_wp2
                      go_meet
                      case rel => exact ⟨_, (true), (by first | rfl | (simp; done) | (simp [*]; done)), H', ⟨by have := HJ12.out; first | omega | exact Nat.le_refl _⟩, ⟨by (with_reducible repeat (first | apply Kd.R_alloc | apply Kd.R_drewN | apply Kd.R_drew)); exact Kd.R_mono (Kd.R_far (p := ⟨gb296, 5, none⟩) (Kd.R_types HO306.out BK296.out (by decide)) (fun _ hk => hk.2) (.slice Ao43 t303.length co43)) (fun _ hk => trivial)⟩, ⟨by (with_reducible repeat (first | refine blk_drewN ?_ _ | refine blk_drew ?_ | refine blk_alloc ?_ _)); refine blk_far ?_ NB288_296.out _; (with_reducible repeat (first | refine blk_drewN ?_ _ | refine blk_drew ?_ | refine blk_alloc ?_ _)); exact BK288.out⟩, ⟨by (with_reducible repeat (first | refine blk_drewN ?_ _ | refine blk_drew ?_ | refine blk_alloc ?_ _)); refine blk_put (cs := #[.int .i64 (rd t289 0), .int .i64 (rd t289 1), .int .i64 (rd t289 2), .string t297, .string t299, .slice none 0 0, .slice none 0 0]) ?_ 5 _ rfl; (with_reducible repeat (first | refine blk_drewN ?_ _ | refine blk_drew ?_ | refine blk_alloc ?_ _)); exact BK296.out⟩, ⟨by repeat (first | (with_reducible first | exact HB.out | apply below_alloc | apply pw_below_drewN | apply below_drew1 | refine below_set ?_ GE288.out | refine below_set ?_ GE296.out) | exact HB.out)⟩⟩
                    · rw [if_neg c46] at H
                      have c46b0 : decide (t308 < 0) = false := decide_eq_false c46
                      clear c46
                      (first | rw [c46b0] | (simp only [i64_w, i32_w]; rw [c46b0]) | skip)
                      by_cases c47 : t307 < 0
                      · rw [if_pos c47] at H
                        have c47b0 : decide (t307 < 0) = true := decide_eq_true c47
                        clear c47
                        have H' := Aside0.mk H
                        clear H
                        go_wp2
                        go_meet
                        case rel => exact ⟨_, (true), (by first | rfl | (simp; done) | (simp [*]; done)), H', ⟨by have := HJ12.out; first | omega | exact Nat.le_refl _⟩, ⟨by (with_reducible repeat (first | apply Kd.R_alloc | apply Kd.R_drewN | apply Kd.R_drew)); exact Kd.R_mono (Kd.R_far (p := ⟨gb296, 5, none⟩) (Kd.R_types HO306.out BK296.out (by decide)) (fun _ hk => hk.2) (.slice Ao43 t303.length co43)) (fun _ hk => trivial)⟩, ⟨by (with_reducible repeat (first | refine blk_drewN ?_ _ | refine blk_drew ?_ | refine blk_alloc ?_ _)); refine blk_far ?_ NB288_296.out _; (with_reducible repeat (first | refine blk_drewN ?_ _ | refine blk_drew ?_ | refine blk_alloc ?_ _)); exact BK288.out⟩, ⟨by (with_reducible repeat (first | refine blk_drewN ?_ _ | refine blk_drew ?_ | refine blk_alloc ?_ _)); refine blk_put (cs := #[.int .i64 (rd t289 0), .int .i64 (rd t289 1), .int .i64 (rd t289 2), .string t297, .string t299, .slice none 0 0, .slice none 0 0]) ?_ 5 _ rfl; (with_reducible repeat (first | refine blk_drewN ?_ _ | refine blk_drew ?_ | refine blk_alloc ?_ _)); exact BK296.out⟩, ⟨by repeat (first | (with_reducible first | exact HB.out | apply below_alloc | apply pw_below_drewN | apply below_drew1 | refine below_set ?_ GE288.out | refine below_set ?_ GE296.out) | exact HB.out)⟩⟩
                      · rw [if_neg c47] at H
                        have c47b0 : decide (t307 < 0) = false := decide_eq_false c47
                        clear c47
                        have H' := Aside0.mk H
                        clear H
                        go_wp2
                        go_meet
                        case rel => exact ⟨_, (decide (t307 > 64)), (by first | rfl | (simp; done) | (simp [*]; done)), H', ⟨by have := HJ12.out; first | omega | exact Nat.le_refl _⟩, ⟨by (with_reducible repeat (first | apply Kd.R_alloc | apply Kd.R_drewN | apply Kd.R_drew)); exact Kd.R_mono (Kd.R_far (p := ⟨gb296, 5, none⟩) (Kd.R_types HO306.out BK296.out (by decide)) (fun _ hk => hk.2) (.slice Ao43 t303.length co43)) (fun _ hk => trivial)⟩, ⟨by (with_reducible repeat (first | refine blk_drewN ?_ _ | refine blk_drew ?_ | refine blk_alloc ?_ _)); refine blk_far ?_ NB288_296.out _; (with_reducible repeat (first | refine blk_drewN ?_ _ | refine blk_drew ?_ | refine blk_alloc ?_ _)); exact BK288.out⟩, ⟨by (with_reducible repeat (first | refine blk_drewN ?_ _ | refine blk_drew ?_ | refine blk_alloc ?_ _)); refine blk_put (cs := #[.int .i64 (rd t289 0), .int .i64 (rd t289 1), .int .i64 (rd t289 2), .string t297, .string t299, .slice none 0 0, .slice none 0 0]) ?_ 5 _ rfl; (with_reducible repeat (first | refine blk_drewN ?_ _ | refine blk_drew ?_ | refine blk_alloc ?_ _)); exact BK296.out⟩, ⟨by repeat (first | (with_reducible first | exact HB.out | apply below_alloc | apply pw_below_drewN | apply below_drew1 | refine below_set ?_ GE288.out | refine below_set ?_ GE296.out) | exact HB.out)⟩⟩
                  case rest =>
                    clear HC41
                    try clear c2
                    try clear p2
                    try clear q2
                    try clear hx2
                    try clear qi2
                    try clear c3
                    try clear c3b0
                    try clear c4
                    try clear c7
                    try clear c7b0
                    try clear c7b1
                    try clear c8
                    try clear c8b0
                    try clear c8b1
                    try clear c9
                    try clear c9b0
                    try clear c9b1
                    try clear c22
                    try clear c24
                    try clear c26
                    try clear c28
                    try clear c28b0
                    try clear c29
                    try clear c29b0
                    try clear p29
                    try clear q29
                    try clear hx29
                    try clear qi29
                    try clear c30
                    try clear c31
                    try clear c34
                    try clear c34b0
                    try clear c37
                    try clear c44
                    try clear c46
                    try clear c46b0
                    try clear c47
                    try clear c47b0
                    try clear hcz27_0
                    try clear hcz27_1
                    try clear hcz27_2
                    try clear hcz27_3
                    try clear hcz27_4
                    try clear hcz27_5
                    try clear hcz27_6
                    try clear hcz32_0
                    try clear hcz32_1
                    try clear hcz32_2
                    try clear hcz32_3
                    try clear hcz32_4
                    try clear hcz32_5
                    try clear hcz32_6
                    try clear hcz38_0
                    try clear hcz38_1
                    try clear hcz38_2
                    try clear hcz38_3
                    try clear hcz38_4
                    try clear hcz38_5
                    try clear hcz38_6
                    try clear hcz39_0
                    try clear hcz39_1
                    try clear hcz39_2
                    try clear hcz39_3
                    try clear hcz39_4
                    try clear hcz39_5
                    try clear hcz39_6
                    try clear hcz45_0
                    try clear hcz45_1
                    try clear hcz45_2
                    try clear hcz45_3
                    try clear hcz45_4
                    try clear hcz45_5
                    try clear hcz45_6
                    try clear hcz6_0
                    try clear hcz6_1
                    try clear hcz6_2
                    try clear hcz6_3
                    try clear hcz6_4
                    try clear hcz6_5
                    try clear hcz6_6
                    try clear hfz27_0
                    try clear hfz27_1
                    try clear hfz27_2
                    try clear hfz27_3
                    try clear hfz27_4
                    try clear hfz27_5
                    try clear hfz27_6
                    try clear hfz32_0
                    try clear hfz32_1
                    try clear hfz32_2
                    try clear hfz32_3
                    try clear hfz32_4
                    try clear hfz32_5
                    try clear hfz32_6
                    try clear hfz38_0
                    try clear hfz38_1
                    try clear hfz38_2
                    try clear hfz38_3
                    try clear hfz38_4
                    try clear hfz38_5
                    try clear hfz38_6
                    try clear hfz39_0
                    try clear hfz39_1
                    try clear hfz39_2
                    try clear hfz39_3
                    try clear hfz39_4
                    try clear hfz39_5
                    try clear hfz39_6
                    try clear hfz45_0
                    try clear hfz45_1
                    try clear hfz45_2
                    try clear hfz45_3
                    try clear hfz45_4
                    try clear hfz45_5
                    try clear hfz45_6
                    try clear hfz6_0
                    try clear hfz6_1
                    try clear hfz6_2
                    try clear hfz6_3
                    try clear hfz6_4
                    try clear hfz6_5
                    try clear hfz6_6
                    try clear hx293_0
                    try clear hx294_0
                    try clear hx295_0
                    try clear p2
                    try clear p29
                    try clear p293
                    try clear p294
                    try clear p295
                    try clear q2
                    try clear q29
                    try clear q293
                    try clear q294
                    try clear q295
                    obtain ⟨kq, x85_40, rfl, HA, HJ40, HO_297005, BK288, BK296, HB⟩ := hcut
                    cases kq with
                    | zero => exact absurd HA.out (by simp [prebendref12_Decode.j1])
                    | succ kj40 =>
                      have H := HA.out
                      clear HA
                      simp only [prebendref12_Decode.j1] at H
                      by_cases c48 : x85_40 = true
                      · subst c48
                        have H1 : (some (0, 0, 0, (⟨#[]⟩ : ByteArray), (⟨#[]⟩ : ByteArray), ([] : List Int), ([] : List (S87)), 3)) = some (r1, r2, r3, r4, r5, r6, r7, r8) := by rw [if_pos rfl] at H; exact H
                        clear H
                        have H := H1
                        clear H1
                        simp only [Option.some.injEq, Prod.mk.injEq] at H
                        obtain ⟨rfl, rfl, rfl, rfl, rfl, rfl, rfl, rfl⟩ := H
                        have hnb49 := NB288_296.out
                        have hnc49 := NB296_288.out
                        have hcz50_0 : wc.cell? ⟨gb288, 0, none⟩ = some (.int .i64 0) := (blk_cell BK288.out 0).trans rfl
                        have hcz50_1 : wc.cell? ⟨gb288, 1, none⟩ = some (.int .i64 0) := (blk_cell BK288.out 1).trans rfl
                        have hcz50_2 : wc.cell? ⟨gb288, 2, none⟩ = some (.int .i64 0) := (blk_cell BK288.out 2).trans rfl
                        have hcz50_3 : wc.cell? ⟨gb288, 3, none⟩ = some (.string (⟨#[]⟩ : ByteArray)) := (blk_cell BK288.out 3).trans rfl
                        have hcz50_4 : wc.cell? ⟨gb288, 4, none⟩ = some (.string (⟨#[]⟩ : ByteArray)) := (blk_cell BK288.out 4).trans rfl
                        have hcz50_5 : wc.cell? ⟨gb288, 5, none⟩ = some (.slice none 0 0) := (blk_cell BK288.out 5).trans rfl
                        have hcz50_6 : wc.cell? ⟨gb288, 6, none⟩ = some (.slice none 0 0) := (blk_cell BK288.out 6).trans rfl
                        have hfz50_0 := blk_frozen BK288.out 0
                        have hfz50_1 := blk_frozen BK288.out 1
                        have hfz50_2 := blk_frozen BK288.out 2
                        have hfz50_3 := blk_frozen BK288.out 3
                        have hfz50_4 := blk_frozen BK288.out 4
                        have hfz50_5 := blk_frozen BK288.out 5
                        have hfz50_6 := blk_frozen BK288.out 6
                        go_wp2
                        refine bodyPost_ret (results_ct rfl _ _ gb288 50 #[.int .i64 0, .int .i64 0, .int .i64 0, .string (⟨#[]⟩ : ByteArray), .string (⟨#[]⟩ : ByteArray), .slice none 0 0, .slice none 0 0] (0, 0) _ rfl (by (with_reducible repeat (first | refine blk_drewN ?_ _ | refine blk_drew ?_ | refine blk_alloc ?_ _)); refine blk_put (cs := #[.int .i64 0, .int .i64 0, .int .i64 0, .string (⟨#[]⟩ : ByteArray), .string (⟨#[]⟩ : ByteArray), .slice none 0 0, .slice none 0 0]) ?_ 6 _ rfl; (with_reducible repeat (first | refine blk_drewN ?_ _ | refine blk_drew ?_ | refine blk_alloc ?_ _)); refine blk_put (cs := #[.int .i64 0, .int .i64 0, .int .i64 0, .string (⟨#[]⟩ : ByteArray), .string (⟨#[]⟩ : ByteArray), .slice none 0 0, .slice none 0 0]) ?_ 5 _ rfl; (with_reducible repeat (first | refine blk_drewN ?_ _ | refine blk_drew ?_ | refine blk_alloc ?_ _)); refine blk_put (cs := #[.int .i64 0, .int .i64 0, .int .i64 0, .string (⟨#[]⟩ : ByteArray), .string (⟨#[]⟩ : ByteArray), .slice none 0 0, .slice none 0 0]) ?_ 4 _ rfl; (with_reducible repeat (first | refine blk_drewN ?_ _ | refine blk_drew ?_ | refine blk_alloc ?_ _)); refine blk_put (cs := #[.int .i64 0, .int .i64 0, .int .i64 0, .string (⟨#[]⟩ : ByteArray), .string (⟨#[]⟩ : ByteArray), .slice none 0 0, .slice none 0 0]) ?_ 3 _ rfl; (with_reducible repeat (first | refine blk_drewN ?_ _ | refine blk_drew ?_ | refine blk_alloc ?_ _)); refine blk_put (cs := #[.int .i64 0, .int .i64 0, .int .i64 0, .string (⟨#[]⟩ : ByteArray), .string (⟨#[]⟩ : ByteArray), .slice none 0 0, .slice none 0 0]) ?_ 2 _ rfl; (with_reducible repeat (first | refine blk_drewN ?_ _ | refine blk_drew ?_ | refine blk_alloc ?_ _)); refine blk_put (cs := #[.int .i64 0, .int .i64 0, .int .i64 0, .string (⟨#[]⟩ : ByteArray), .string (⟨#[]⟩ : ByteArray), .slice none 0 0, .slice none 0 0]) ?_ 1 _ rfl; (with_reducible repeat (first | refine blk_drewN ?_ _ | refine blk_drew ?_ | refine blk_alloc ?_ _)); refine blk_put (cs := #[.int .i64 0, .int .i64 0, .int .i64 0, .string (⟨#[]⟩ : ByteArray), .string (⟨#[]⟩ : ByteArray), .slice none 0 0, .slice none 0 0]) ?_ 0 _ rfl; (with_reducible repeat (first | refine blk_drewN ?_ _ | refine blk_drew ?_ | refine blk_alloc ?_ _)); exact BK288.out) Try.underlying50 rfl (by kernel_rfl)) rfl ?_
                        exact ⟨_, _, by first | rfl | (simp [errW_none, errW_some] <;> rfl) | (simp [*, errW_none, errW_some] <;> rfl), by first | exact Kd.R_nil _ _ _ _ _ | exact Kd.N_nil _ _ _ _ _ | exact Kd.V_nil _ _ _ _ _ | exact Kd.Q_nil _ _ _ _ _ | exact Kd.S_nil _ _ _ _ _, by first | exact Kd.R_nil _ _ _ _ _ | exact Kd.N_nil _ _ _ _ _ | exact Kd.V_nil _ _ _ _ _ | exact Kd.Q_nil _ _ _ _ _ | exact Kd.S_nil _ _ _ _ _, by repeat (first | (with_reducible first | exact HB.out | apply below_alloc | apply pw_below_drewN | apply below_drew1 | refine below_set ?_ GE288.out | refine below_set ?_ GE296.out) | exact HB.out)⟩
                      · replace c48 := Bool.eq_false_iff.mpr c48
                        subst c48
                        have H1 : ((prebendref12_numbers.f kj40 l0 t308 (wrap64 (2 * t307))).bind fun bt309 => (if bt309.2 = (l0.length : Int) then (prebendref12_Decode.l0 kj40 t307 bt309.1 0 (rd t289 0) (rd t289 1) (rd t289 2) t297 t299 t303 ([] : List (S87))) else (some (0, 0, 0, (⟨#[]⟩ : ByteArray), (⟨#[]⟩ : ByteArray), ([] : List Int), ([] : List (S87)), 3)))) = some (r1, r2, r3, r4, r5, r6, r7, r8) := by rw [if_neg (show ¬ (false = true) by decide)] at H; exact H
                        clear H
                        have H := H1
                        clear H1
                        replace H := Option.bind_eq_some_iff.mp H
                        obtain ⟨⟨t309, t310⟩, A510, H⟩ := H
                        replace H : (if t310 = (l0.length : Int) then (prebendref12_Decode.l0 kj40 t307 t309 0 (rd t289 0) (rd t289 1) (rd t289 2) t297 t299 t303 ([] : List (S87))) else (some (0, 0, 0, (⟨#[]⟩ : ByteArray), (⟨#[]⟩ : ByteArray), ([] : List Int), ([] : List (S87)), 3))) = some (r1, r2, r3, r4, r5, r6, r7, r8) := H
                        have A51 := Aside0.mk A510
                        clear A510
                        by_cases c52 : t310 = (l0.length : Int)
                        · rw [if_pos c52] at H
                          have c52b0 : (t310 == (l0.length : Int)) = true := beq_iff_eq.mpr c52
                          have c52b1 : (t310 != (l0.length : Int)) = false := bne_eq_false_iff_eq.mpr c52
                          clear c52
                          have H' := Aside0.mk H
                          clear H
                          go_wp2_with (first | ((with_reducible refine gate_callee (f := 47) rfl ?_); refine goesL_ (some 92) rfl rfl Try.func47 (by kernel_rfl) rfl #[.slice A0 l0.length c0, .int .i64 t308, .int .i64 (wrap64 (2 * t307))] rfl (by (try simp only [List.map_toArray, List.map_cons, List.map_nil]); first | done | rfl | (simp only [List.length_drop, List.length_take]; rfl)) ?_; (with_reducible refine (prebendref12_numbers.calls kj40 _ _ l0 t308 (wrap64 (2 * t307)) t309 t310 _ ?side1 ?side2 A51.out).mono ?_); (case side1 => repeat (first | exact (Kd.C_below HR0.out HB.out) | (with_reducible refine Kd.C_alloc ?_ _) | (with_reducible refine Kd.C_drewN ?_ _) | (with_reducible refine Kd.C_drew ?_))); (case side2 => exact HC0.out); rintro e w53 ⟨v311, rfl, ho0, hb⟩; refine ⟨_, rfl, ?_⟩; have n0_ := Aside0.mk (Kd.R_elder' (by (with_reducible repeat (first | apply Kd.R_alloc | apply Kd.R_drewN | apply Kd.R_drew)); exact HO_297005.out) (Kd.R_base ho0) hb); have n1_ := Aside0.mk (Kd.R_lower (Kd.R_new' ho0 (Kd.R_lt (by (with_reducible repeat (first | apply Kd.R_alloc | apply Kd.R_drewN | apply Kd.R_drew)); exact HO_297005.out))) (below_size (by repeat (first | (with_reducible first | exact HB.out | apply below_alloc | apply pw_below_drewN | apply below_drew1 | refine below_set ?_ GE288.out | refine below_set ?_ GE296.out) | exact HB.out)))); have n2_ := Aside0.mk (blk_below (g := gb288) (o := .cells #[.int .i64 0, .int .i64 0, .int .i64 0, .string (⟨#[]⟩ : ByteArray), .string (⟨#[]⟩ : ByteArray), .slice none 0 0, .slice none 0 0] 50 (0, 0)) (by (with_reducible repeat (first | refine blk_drewN ?_ _ | refine blk_drew ?_ | refine blk_alloc ?_ _)); exact BK288.out) hb); have n3_ := Aside0.mk (blk_below (g := gb296) (o := .cells #[.int .i64 (rd t289 0), .int .i64 (rd t289 1), .int .i64 (rd t289 2), .string t297, .string t299, .slice Ao43 t303.length co43, .slice none 0 0] 50 (0, 0)) (by (with_reducible repeat (first | refine blk_drewN ?_ _ | refine blk_drew ?_ | refine blk_alloc ?_ _)); exact BK296.out) hb); have n4_ := Aside0.mk (below_step (by repeat (first | (with_reducible first | exact HB.out | apply below_alloc | apply pw_below_drewN | apply below_drew1 | refine below_set ?_ GE288.out | refine below_set ?_ GE296.out) | exact HB.out)) hb); clear HO_297005; clear BK288; clear BK296; clear HB; have HO_297005 := n0_; have HO312 := n1_; have BK288 := n2_; have BK296 := n3_; have HB := n4_; clear n0_ n1_ n2_ n3_ n4_; (try clear hb); (try clear hb2); (try clear hk); (try clear hi); (try clear ho0)))
                          go_loopg [9] kj40 (fun kq v9 w' => ∃ (x9_3 : Int) (x297006_3 : List (S87)) (u297006 : Value), v9 = .int .i64 x9_3 ∧ Aside0 (prebendref12_Decode.l0 kq t307 t309 x9_3 (rd t289 0) (rd t289 1) (rd t289 2) t297 t299 t303 x297006_3 = some (r1, r2, r3, r4, r5, r6, r7, r8)) ∧ Aside0 (kq ≤ kj40) ∧ Aside0 (Kd.R (Kd.int .i64) 3 w' w.heap.size (fun k_ => some k_ ≠ ((.slice Ao43 t303.length co43) : Value).ownBlock) v311 t309) ∧ Aside0 (Kd.R (Kd.int .i64) 3 w' w.heap.size (fun k_ => some k_ ≠ (v311 : Value).ownBlock) (.slice Ao43 t303.length co43) t303) ∧ Aside0 (Kd.R k87 87 w' w.heap.size (fun _ => True) u297006 x297006_3) ∧ Aside0 (w'.heap[gb288]? = some (.cells #[.int .i64 0, .int .i64 0, .int .i64 0, .string (⟨#[]⟩ : ByteArray), .string (⟨#[]⟩ : ByteArray), (.slice none 0 0), (.slice none 0 0)] 50 (0, 0))) ∧ Aside0 (w'.heap[gb296]? = some (.cells #[.int .i64 (rd t289 0), .int .i64 (rd t289 1), .int .i64 (rd t289 2), .string t297, .string t299, (.slice Ao43 t303.length co43), u297006] 50 (0, 0))) ∧ Aside0 (Below w.heap.size w w'))
                          case atStart => exact ⟨(0), (([] : List (S87))), (.slice none 0 0), (by first | rfl | (simp; done) | (simp [*]; done)), H', ⟨Nat.le_refl _⟩, ⟨by (with_reducible repeat (first | apply Kd.R_alloc | apply Kd.R_drewN | apply Kd.R_drew)); exact Kd.R_mono HO312.out (fun _ hk => hk.2)⟩, ⟨by (with_reducible repeat (first | apply Kd.R_alloc | apply Kd.R_drewN | apply Kd.R_drew)); exact Kd.R_mono HO_297005.out (fun _ hk => hk.2)⟩, ⟨by first | exact Kd.R_nil _ _ _ _ _ | exact Kd.N_nil _ _ _ _ _ | exact Kd.V_nil _ _ _ _ _ | exact Kd.Q_nil _ _ _ _ _ | exact Kd.S_nil _ _ _ _ _⟩, ⟨by (with_reducible repeat (first | refine blk_drewN ?_ _ | refine blk_drew ?_ | refine blk_alloc ?_ _)); exact BK288.out⟩, ⟨by (with_reducible repeat (first | refine blk_drewN ?_ _ | refine blk_drew ?_ | refine blk_alloc ?_ _)); exact BK296.out⟩, ⟨by repeat (first | (with_reducible first | exact HB.out | apply below_alloc | apply pw_below_drewN | apply below_drew1 | refine below_set ?_ GE288.out | refine below_set ?_ GE296.out) | exact HB.out)⟩⟩
                          case round =>
                            clear H'
                            try clear c2
                            try clear p2
                            try clear q2
                            try clear hx2
                            try clear qi2
                            try clear c3
                            try clear c3b0
                            try clear c4
                            try clear c5
                            try clear p6
                            try clear c7
                            try clear c7b0
                            try clear c7b1
                            try clear c8
                            try clear c8b0
                            try clear c8b1
                            try clear c9
                            try clear c9b0
                            try clear c9b1
                            try clear c22
                            try clear c24
                            try clear c26
                            try clear c28
                            try clear c28b0
                            try clear c29
                            try clear c29b0
                            try clear p29
                            try clear q29
                            try clear hx29
                            try clear qi29
                            try clear c30
                            try clear c31
                            try clear c34
                            try clear c34b0
                            try clear c37
                            try clear c44
                            try clear c46
                            try clear c46b0
                            try clear c47
                            try clear c47b0
                            try clear c48
                            try clear c49
                            try clear c52
                            try clear c52b0
                            try clear c52b1
                            try clear hcz27_0
                            try clear hcz27_1
                            try clear hcz27_2
                            try clear hcz27_3
                            try clear hcz27_4
                            try clear hcz27_5
                            try clear hcz27_6
                            try clear hcz32_0
                            try clear hcz32_1
                            try clear hcz32_2
                            try clear hcz32_3
                            try clear hcz32_4
                            try clear hcz32_5
                            try clear hcz32_6
                            try clear hcz38_0
                            try clear hcz38_1
                            try clear hcz38_2
                            try clear hcz38_3
                            try clear hcz38_4
                            try clear hcz38_5
                            try clear hcz38_6
                            try clear hcz39_0
                            try clear hcz39_1
                            try clear hcz39_2
                            try clear hcz39_3
                            try clear hcz39_4
                            try clear hcz39_5
                            try clear hcz39_6
                            try clear hcz45_0
                            try clear hcz45_1
                            try clear hcz45_2
                            try clear hcz45_3
                            try clear hcz45_4
                            try clear hcz45_5
                            try clear hcz45_6
                            try clear hcz50_0
                            try clear hcz50_1
                            try clear hcz50_2
                            try clear hcz50_3
                            try clear hcz50_4
                            try clear hcz50_5
                            try clear hcz50_6
                            try clear hcz6_0
                            try clear hcz6_1
                            try clear hcz6_2
                            try clear hcz6_3
                            try clear hcz6_4
                            try clear hcz6_5
                            try clear hcz6_6
                            try clear hfz27_0
                            try clear hfz27_1
                            try clear hfz27_2
                            try clear hfz27_3
                            try clear hfz27_4
                            try clear hfz27_5
                            try clear hfz27_6
                            try clear hfz32_0
                            try clear hfz32_1
                            try clear hfz32_2
                            try clear hfz32_3
                            try clear hfz32_4
                            try clear hfz32_5
                            try clear hfz32_6
                            try clear hfz38_0
                            try clear hfz38_1
                            try clear hfz38_2
                            try clear hfz38_3
                            try clear hfz38_4
                            try clear hfz38_5
                            try clear hfz38_6
                            try clear hfz39_0
                            try clear hfz39_1
                            try clear hfz39_2
                            try clear hfz39_3
                            try clear hfz39_4
                            try clear hfz39_5
                            try clear hfz39_6
                            try clear hfz45_0
                            try clear hfz45_1
                            try clear hfz45_2
                            try clear hfz45_3
                            try clear hfz45_4
                            try clear hfz45_5
                            try clear hfz45_6
                            try clear hfz50_0
                            try clear hfz50_1
                            try clear hfz50_2
                            try clear hfz50_3
                            try clear hfz50_4
                            try clear hfz50_5
                            try clear hfz50_6
                            try clear hfz6_0
                            try clear hfz6_1
                            try clear hfz6_2
                            try clear hfz6_3
                            try clear hfz6_4
                            try clear hfz6_5
                            try clear hfz6_6
                            try clear hx293_0
                            try clear hx294_0
                            try clear hx295_0
                            try clear p2
                            try clear p29
                            try clear p293
                            try clear p294
                            try clear p295
                            try clear q2
                            try clear q29
                            try clear q293
                            try clear q294
                            try clear q295
                            obtain ⟨x9_3, x297006_3, u297006, rfl, HA, HK3, HO_8, HO_297005, HO_297006, BK288, BK296, HB⟩ := hrel
                            cases gk with
                            | zero => exact absurd HA.out (by simp [prebendref12_Decode.l0])
                            | succ k3 =>
                              have H := HA.out
                              clear HA
                              simp only [prebendref12_Decode.l0] at H
                              by_cases c54 : x9_3 < t307
                              · rw [if_pos c54] at H
                                have c54b0 : decide (x9_3 < t307) = true := decide_eq_true c54
                                clear c54
                                obtain ⟨ji55, hji55⟩ : ∃ j_ : Int, (wrap64 (2 * x9_3)) = j_ := ⟨_, rfl⟩
                                replace H : (if 0 ≤ (ji55) then (if (ji55) < (t309.length : Int) then (if 0 ≤ (wrap64 ((ji55) + 1)) then (if (wrap64 ((ji55) + 1)) < (t309.length : Int) then (if x297006_3.length < 8796093022208 then (prebendref12_Decode.l0 k3 t307 t309 (wrap64 (x9_3 + 1)) (rd t289 0) (rd t289 1) (rd t289 2) t297 t299 t303 (x297006_3 ++ [(⟨rd t309 (ji55), rd t309 (wrap64 ((ji55) + 1))⟩ : S87)])) else (none)) else (none)) else (none)) else (none)) else (none)) = some (r1, r2, r3, r4, r5, r6, r7, r8) := by first | (rw [hji55] at H; exact H) | (simp only [hji55] at H ⊢; exact H)
                                have hji55w : (IntKind.i64.wrap (2 * x9_3)) = ji55 := (i64_w _).trans hji55
                                by_cases c56 : 0 ≤ (ji55)
                                · rw [if_pos c56] at H
                                  have c56b0 : decide (0 ≤ (ji55)) = true := decide_eq_true c56
                                  clear c56
                                  by_cases c57 : (ji55) < (t309.length : Int)
                                  · rw [if_pos c57] at H
                                    have c57b0 : decide ((ji55) < (t309.length : Int)) = true := decide_eq_true c57
                                    clear c57
                                    obtain ⟨ji58, hji58⟩ : ∃ j_ : Int, (wrap64 ((ji55) + 1)) = j_ := ⟨_, rfl⟩
                                    replace H : (if 0 ≤ (ji58) then (if (ji58) < (t309.length : Int) then (if x297006_3.length < 8796093022208 then (prebendref12_Decode.l0 k3 t307 t309 (wrap64 (x9_3 + 1)) (rd t289 0) (rd t289 1) (rd t289 2) t297 t299 t303 (x297006_3 ++ [(⟨rd t309 (ji55), rd t309 (ji58)⟩ : S87)])) else (none)) else (none)) else (none)) = some (r1, r2, r3, r4, r5, r6, r7, r8) := by first | (rw [hji58] at H; exact H) | (simp only [hji58] at H ⊢; exact H)
                                    have hji58w : (IntKind.i64.wrap ((ji55) + 1)) = ji58 := (i64_w _).trans hji58
                                    (try simp only [hji58] at hji55)
                                    (try simp only [hji58w] at hji55w)
                                    by_cases c59 : 0 ≤ (ji58)
                                    · rw [if_pos c59] at H
                                      have c59b0 : decide (0 ≤ (ji58)) = true := decide_eq_true c59
                                      clear c59
                                      by_cases c60 : (ji58) < (t309.length : Int)
                                      · rw [if_pos c60] at H
                                        have c60b0 : decide ((ji58) < (t309.length : Int)) = true := decide_eq_true c60
                                        clear c60
                                        by_cases c61 : x297006_3.length < 8796093022208
                                        · rw [if_pos c61] at H
                                          have LMc61 := Aside0.mk c61
                                          clear c61
                                          obtain ⟨y315, hy315⟩ : ∃ y_ : List (S87), y_ = (x297006_3 ++ [(⟨rd t309 (ji55), rd t309 (ji58)⟩ : S87)]) := ⟨_, rfl⟩
                                          replace H : (prebendref12_Decode.l0 k3 t307 t309 (wrap64 (x9_3 + 1)) (rd t289 0) (rd t289 1) (rd t289 2) t297 t299 t303 y315) = some (r1, r2, r3, r4, r5, r6, r7, r8) := by first | (rw [hy315]; with_reducible exact H) | (have H2_ := (Option.bind_some _ _).symm.trans H; rw [hy315]; with_reducible exact H2_) | (have H2_ := (Option.bind_some _ _).symm.trans H; with_reducible exact H2_) | with_reducible exact H | (rw [hy315]; exact H) | exact H
                                          have Ny315 := Aside0.mk hy315
                                          clear hy315
                                          have H' := Aside0.mk H
                                          clear H
                                          try go_wp2
                                          have n0_ := Aside0.mk (Kd.R_drew HO_8.out)
                                          have n1_ := Aside0.mk (Kd.R_drew HO_297005.out)
                                          have n2_ := Aside0.mk (Kd.R_drew HO_297006.out)
                                          have n3_ := Aside0.mk (blk_drew BK288.out)
                                          have n4_ := Aside0.mk (blk_drew BK296.out)
                                          have n5_ := Aside0.mk (below_drew1 HB.out)
                                          clear HO_8
                                          clear HO_297005
                                          clear HO_297006
                                          clear BK288
                                          clear BK296
                                          clear HB
                                          have HO_8 := n0_
                                          have HO_297005 := n1_
                                          have HO_297006 := n2_
                                          have BK288 := n3_
                                          have BK296 := n4_
                                          have HB := n5_
                                          clear n0_ n1_ n2_ n3_ n4_ n5_
                                          obtain ⟨Ao63, co63, eo63⟩ := Kd.R_slice HO_8.out
                                          (first | subst eo63 | (injection eo63 with f1_ f2_ f3_; have f4_ := f1_.symm; have f5_ := f3_.symm; clear f1_ f2_ f3_; subst f4_; subst f5_))
                                          have p313 : 0 ≤ ((ji55) : Int) := of_decide_eq_true (by first | (with_reducible assumption) | assumption)
                                          have q313 : (ji55) < (t309.length : Int) := of_decide_eq_true (by first | (with_reducible assumption) | assumption)
                                          obtain ⟨ad313, e313, hx313_0⟩ := Kd.at_int (Kd.R_reads' HO_8.out).2.2 (ji55) p313 q313
                                          cases e313
                                          replace p313 := eq_true p313
                                          replace q313 := eq_true q313
                                          have p314 : 0 ≤ ((ji58) : Int) := of_decide_eq_true (by first | (with_reducible assumption) | assumption)
                                          have q314 : (ji58) < (t309.length : Int) := of_decide_eq_true (by first | (with_reducible assumption) | assumption)
                                          obtain ⟨ad314, e314, hx314_0⟩ := Kd.at_int (Kd.R_reads' HO_8.out).2.2 (ji58) p314 q314
                                          obtain rfl : ad313 = ad314 := (by injection e314)
                                          replace p314 := eq_true p314
                                          replace q314 := eq_true q314
                                          refine start_ (n := 18) (S := fun w' => w'.cell? ⟨gb296, 0, none⟩ = some (.int .i64 (rd t289 0)) ∧ w'.cell? ⟨gb296, 1, none⟩ = some (.int .i64 (rd t289 1)) ∧ w'.cell? ⟨gb296, 2, none⟩ = some (.int .i64 (rd t289 2)) ∧ w'.cell? ⟨gb296, 3, none⟩ = some (.string t297) ∧ w'.cell? ⟨gb296, 4, none⟩ = some (.string t299) ∧ w'.cell? ⟨gb296, 5, none⟩ = some (.slice Ao43 t303.length co43) ∧ w'.cell? ⟨gb296, 6, none⟩ = some (u297006) ∧ w'.cell? (ad313.add ((ji55)).toNat) = some (.int .i64 (rd t309 (ji55))) ∧ w'.cell? (ad313.add ((ji58)).toNat) = some (.int .i64 (rd t309 (ji58)))) (ds := [15, 17]) #[false, false, false, false, false, false, false, false, false, false, false, false, false, false, false, false, false, false] (by kernel_rfl) rfl rfl ⟨(blk_cell BK296.out 0).trans rfl, (blk_cell BK296.out 1).trans rfl, (blk_cell BK296.out 2).trans rfl, (blk_cell BK296.out 3).trans rfl, (blk_cell BK296.out 4).trans rfl, (blk_cell BK296.out 5).trans rfl, (blk_cell BK296.out 6).trans rfl, hx313_0, hx314_0⟩ (fun hHeld => ?_); refine with_tabW prebendref12_Decode.tab22 prebendref12_Decode.bits22 (fun HT_ HW_ => ?_)
                                          generalize wr.drew = w62 at HO_8 HO_297005 HO_297006 BK288 BK296 HB hx313_0 hx314_0 hHeld ⊢
                                          refine pure_ (i := 0) (N := some 105) (v := ?_) (a' := ?_) #[true, false, false, false, false, false, false, false, false, false, false, false, false, false, false, false, false, false] rfl rfl (any_of HT_.out (by kernel_rfl)) (fun _ _ _ h => h) (Or.inl ⟨by rfl, ?_⟩) ?_ ?_
                                          rotate_left
                                          · intro w'
                                            go_simp
                                            with_reducible rfl
                                          rotate_left
                                          · simp only [Act.put, List.setIfInBounds_toArray, List.set_cons_zero, List.set_cons_succ, i64_w, i32_w]
                                            rfl
                                          refine pure_ (i := 2) (N := some 107) (v := ?_) (a' := ?_) #[true, false, true, false, false, false, false, false, false, false, false, false, false, false, false, false, false, false] rfl rfl (any_of HT_.out (by kernel_rfl)) (fun _ _ _ h => h) (Or.inl ⟨by rfl, ?_⟩) ?_ ?_
                                          rotate_left
                                          · intro w'
                                            go_simp
                                            with_reducible rfl
                                          rotate_left
                                          · simp only [Act.put, List.setIfInBounds_toArray, List.set_cons_zero, List.set_cons_succ, i64_w, i32_w]
                                            rfl
                                          refine pure_ (i := 3) (N := some 108) (v := ?_) (a' := ?_) #[true, false, true, true, false, false, false, false, false, false, false, false, false, false, false, false, false, false] rfl rfl (any_of HT_.out (by kernel_rfl)) (fun _ _ _ h => h) (Or.inl ⟨by rfl, ?_⟩) ?_ ?_
                                          rotate_left
                                          · intro w'
                                            go_simp
                                            with_reducible rfl
                                          rotate_left
                                          · simp only [Act.put, List.setIfInBounds_toArray, List.set_cons_zero, List.set_cons_succ, i64_w, i32_w]
                                            rfl
                                          refine pure_ (i := 4) (N := some 109) (v := ?_) (a' := ?_) #[true, false, true, true, true, false, false, false, false, false, false, false, false, false, false, false, false, false] rfl rfl (any_of HT_.out (by kernel_rfl)) (fun _ _ _ h => h) (Or.inl ⟨by rfl, ?_⟩) ?_ ?_
                                          rotate_left
                                          · intro w'
                                            go_simp
                                            with_reducible rfl
                                          rotate_left
                                          · simp only [Act.put, List.setIfInBounds_toArray, List.set_cons_zero, List.set_cons_succ, i64_w, i32_w]
                                            rfl
                                          refine pure_ (i := 5) (N := some 110) (v := ?_) (a' := ?_) #[true, false, true, true, true, true, false, false, false, false, false, false, false, false, false, false, false, false] rfl rfl (any_of HT_.out (by kernel_rfl)) (fun _ _ _ h => h) (Or.inl ⟨by rfl, ?_⟩) ?_ ?_
                                          rotate_left
                                          · intro w'
                                            go_simp
                                            with_reducible rfl
                                          rotate_left
                                          · simp only [Act.put, List.setIfInBounds_toArray, List.set_cons_zero, List.set_cons_succ, i64_w, i32_w]
                                            rfl
                                          refine pure_ (i := 7) (N := some 112) (v := ?_) (a' := ?_) #[true, false, true, true, true, true, false, true, false, false, false, false, false, false, false, false, false, false] rfl rfl (any_of HT_.out (by kernel_rfl)) (fun _ _ _ h => h) (Or.inl ⟨by rfl, ?_⟩) ?_ ?_
                                          rotate_left
                                          · intro w'
                                            go_simp
                                            with_reducible rfl
                                          rotate_left
                                          · simp only [Act.put, List.setIfInBounds_toArray, List.set_cons_zero, List.set_cons_succ, i64_w, i32_w]
                                            rfl
                                          refine pure_ (i := 8) (N := some 113) (v := ?_) (a' := ?_) #[true, false, true, true, true, true, false, true, true, false, false, false, false, false, false, false, false, false] rfl rfl (any_of HT_.out (by kernel_rfl)) (fun _ _ _ h => h) (Or.inl ⟨by rfl, ?_⟩) ?_ ?_
                                          rotate_left
                                          · intro w'
                                            go_simp
                                            with_reducible rfl
                                          rotate_left
                                          · simp only [Act.put, List.setIfInBounds_toArray, List.set_cons_zero, List.set_cons_succ, i64_w, i32_w]
                                            rfl
                                          refine pure_ (i := 9) (N := some 114) (v := ?_) (a' := ?_) #[true, false, true, true, true, true, false, true, true, true, false, false, false, false, false, false, false, false] rfl rfl (any_of HT_.out (by kernel_rfl)) (fun _ _ _ h => h) (Or.inl ⟨by rfl, ?_⟩) ?_ ?_
                                          rotate_left
                                          · intro w'
                                            go_simp
                                            with_reducible rfl
                                          rotate_left
                                          · simp only [Act.put, List.setIfInBounds_toArray, List.set_cons_zero, List.set_cons_succ, i64_w, i32_w]
                                            rfl
                                          refine pure_ (i := 10) (N := some 115) (v := ?_) (a' := ?_) #[true, false, true, true, true, true, false, true, true, true, true, false, false, false, false, false, false, false] rfl rfl (any_of HT_.out (by kernel_rfl)) (fun _ _ _ h => h) (Or.inl ⟨by rfl, ?_⟩) ?_ ?_
                                          rotate_left
                                          · intro w'
                                            go_simp
                                            with_reducible rfl
                                          rotate_left
                                          · simp only [Act.put, List.setIfInBounds_toArray, List.set_cons_zero, List.set_cons_succ, i64_w, i32_w]
                                            rfl
                                          refine pure_ (i := 11) (N := some 116) (v := ?_) (a' := ?_) #[true, false, true, true, true, true, false, true, true, true, true, true, false, false, false, false, false, false] rfl rfl (any_of HT_.out (by kernel_rfl)) (fun _ _ _ h => h) (Or.inl ⟨by rfl, ?_⟩) ?_ ?_
                                          rotate_left
                                          · intro w'
                                            go_simp
                                            with_reducible rfl
                                          rotate_left
                                          · simp only [Act.put, List.setIfInBounds_toArray, List.set_cons_zero, List.set_cons_succ, i64_w, i32_w]
                                            rfl
                                          refine take_ (i := 1) (N := some 106) (v := ?_) (a' := ?_) #[true, true, true, true, true, true, false, true, true, true, true, true, false, false, false, false, false, false] rfl rfl (take_ofW HT_.out HW_.out (by kernel_rfl)) (fun _ _ _ h => h) (Or.inl ⟨by rfl, ?_⟩) hHeld ?_ ?_
                                          rotate_left
                                          · rintro w' ⟨s0, s1, s2, s3, s4, s5, s6, s7, s8⟩
                                            go_simp
                                            with_reducible rfl
                                          rotate_left
                                          · simp only [Act.put, List.setIfInBounds_toArray, List.set_cons_zero, List.set_cons_succ, i64_w, i32_w]
                                            rfl
                                          refine take_ (i := 6) (N := some 111) (v := ?_) (a' := ?_) #[true, true, true, true, true, true, true, true, true, true, true, true, false, false, false, false, false, false] rfl rfl (take_ofW HT_.out HW_.out (by kernel_rfl)) (fun _ _ _ h => h) (Or.inl ⟨by rfl, ?_⟩) hHeld ?_ ?_
                                          rotate_left
                                          · rintro w' ⟨s0, s1, s2, s3, s4, s5, s6, s7, s8⟩
                                            go_simp
                                            with_reducible rfl
                                          rotate_left
                                          · simp only [Act.put, List.setIfInBounds_toArray, List.set_cons_zero, List.set_cons_succ, i64_w, i32_w]
                                            rfl
                                          refine take_ (i := 12) (N := some 117) (v := ?_) (a' := ?_) #[true, true, true, true, true, true, true, true, true, true, true, true, true, false, false, false, false, false] rfl rfl (take_ofW HT_.out HW_.out (by kernel_rfl)) (fun _ _ _ h => h) (Or.inl ⟨by rfl, ?_⟩) hHeld ?_ ?_
                                          rotate_left
                                          · rintro w' ⟨s0, s1, s2, s3, s4, s5, s6, s7, s8⟩
                                            go_simp
                                            with_reducible rfl
                                          rotate_left
                                          · simp only [Act.put, List.setIfInBounds_toArray, List.set_cons_zero, List.set_cons_succ, i64_w, i32_w]
                                            rfl
                                          refine pure_ (i := 13) (N := some 118) (v := ?_) (a' := ?_) #[true, true, true, true, true, true, true, true, true, true, true, true, true, true, false, false, false, false] rfl rfl (any_of HT_.out (by kernel_rfl)) (fun _ _ _ h => h) (Or.inl ⟨by rfl, ?_⟩) ?_ ?_
                                          rotate_left
                                          · intro w'
                                            go_simp
                                            with_reducible rfl
                                          rotate_left
                                          · simp only [Act.put, List.setIfInBounds_toArray, List.set_cons_zero, List.set_cons_succ, i64_w, i32_w]
                                            rfl
                                          refine one_ (i := 14) (N := some 119) #[true, true, true, true, true, true, true, true, true, true, true, true, true, true, true, false, false, false] rfl rfl (one_of HT_.out (by kernel_rfl)) (by decide) (fun K hK => ?_)
                                          refine value_ (w1 := ?_) (v := ?_) (by rfl) rfl ?_ ?_
                                          rotate_left 2
                                          · go_simp
                                            constructor
                                            · rfl
                                            · rfl
                                          refine hK.out _ _ ⟨(blk_cell (blk_alloc BK296.out _) 0).trans rfl, (blk_cell (blk_alloc BK296.out _) 1).trans rfl, (blk_cell (blk_alloc BK296.out _) 2).trans rfl, (blk_cell (blk_alloc BK296.out _) 3).trans rfl, (blk_cell (blk_alloc BK296.out _) 4).trans rfl, (blk_cell (blk_alloc BK296.out _) 5).trans rfl, (blk_cell (blk_alloc BK296.out _) 6).trans rfl, (World.cell?_alloc_lt _ _ _ (World.block_lt_of_cell? _ _ (hHeld.2.2.2.2.2.2.2.1))).trans (hHeld.2.2.2.2.2.2.2.1), (World.cell?_alloc_lt _ _ _ (World.block_lt_of_cell? _ _ (hHeld.2.2.2.2.2.2.2.2))).trans (hHeld.2.2.2.2.2.2.2.2)⟩ (fun hHeld => ?_)
                                          clear hK K
                                          refine norm_ (a' := ?_) ?_ ?_
                                          rotate_left
                                          · show Act.put _ (some 119) _ = _
                                            simp only [Act.put, List.setIfInBounds_toArray, List.set_cons_zero, List.set_cons_succ, i64_w, i32_w]
                                            rfl
                                          refine last_ (i := 15) (N := some 120) #[true, true, true, true, true, true, true, true, true, true, true, true, true, true, true, true, false, false] rfl rfl (one_of HT_.out (by kernel_rfl)) (by decide) (fun K hK => ?_)
                                          refine Kd.R_append_step k87 (w0 := w) w.heap.size (by rfl) (.tmp 106) (.tmp 119) 48 87 (.agg #[(.int .i64 0), (.int .i64 0)]) 16 rfl Try.underlying48 info87 rfl (by decide) (by omega) u297006 x297006_3 (⟨rd t309 (ji55), rd t309 (ji58)⟩ : S87) [.int .i64 (rd t309 (ji55)), .int .i64 (rd t309 (ji58))] (fun _ => True) (fun _ => False) rfl rfl ?aP (fun _ hk => hk.elim) ?aF ?aO ?aB ?aS ?aL ?_
                                          (case aP => exact k87_mkM _ _ _ (⟨rd t309 (ji55), rd t309 (ji58)⟩ : S87))
                                          (case aB => exact (by repeat (first | (with_reducible first | exact HB.out | apply below_alloc | apply pw_below_drewN | apply below_drew1 | refine below_set ?_ GE288.out | refine below_set ?_ GE296.out) | exact HB.out)))
                                          (case aF => exact (fun _ _ => trivial))
                                          (case aO => exact (by (with_reducible repeat (first | apply Kd.R_alloc | apply Kd.R_drewN | apply Kd.R_drew)); exact HO_297006.out))
                                          (case aS => exact (below_size (by repeat (first | (with_reducible first | exact HB.out | apply below_alloc | apply pw_below_drewN | apply below_drew1 | refine below_set ?_ GE288.out | refine below_set ?_ GE296.out) | exact HB.out))))
                                          (case aL => have := LMc61.out; omega)
                                          intro v316 w64 ho hb hg hat
                                          rw [← Ny315.out] at ho
                                          have n0_ := Aside0.mk (Kd.R_over' (by (with_reducible repeat (first | apply Kd.R_alloc | apply Kd.R_drewN | apply Kd.R_drew)); exact HO_8.out) (Kd.R_typed (by (with_reducible repeat (first | apply Kd.R_alloc | apply Kd.R_drewN | apply Kd.R_drew)); exact HO_297006.out)) (by decide) hg)
                                          have n1_ := Aside0.mk (Kd.R_over' (by (with_reducible repeat (first | apply Kd.R_alloc | apply Kd.R_drewN | apply Kd.R_drew)); exact HO_297005.out) (Kd.R_typed (by (with_reducible repeat (first | apply Kd.R_alloc | apply Kd.R_drewN | apply Kd.R_drew)); exact HO_297006.out)) (by decide) hg)
                                          have n2_ := Aside0.mk (blk_grown (g := gb288) (o := .cells #[.int .i64 0, .int .i64 0, .int .i64 0, .string (⟨#[]⟩ : ByteArray), .string (⟨#[]⟩ : ByteArray), .slice none 0 0, .slice none 0 0] 50 (0, 0)) (by (with_reducible repeat (first | refine blk_drewN ?_ _ | refine blk_drew ?_ | refine blk_alloc ?_ _)); exact BK288.out) hg (Kd.R_ne HO_297006.out BK288.out (by decide)))
                                          have n3_ := Aside0.mk (blk_grown (g := gb296) (o := .cells #[.int .i64 (rd t289 0), .int .i64 (rd t289 1), .int .i64 (rd t289 2), .string t297, .string t299, .slice Ao43 t303.length co43, u297006] 50 (0, 0)) (by (with_reducible repeat (first | refine blk_drewN ?_ _ | refine blk_drew ?_ | refine blk_alloc ?_ _)); exact BK296.out) hg (Kd.R_ne HO_297006.out BK296.out (by decide)))
                                          have n4_ := Aside0.mk (hb)
                                          have n5_ := Aside0.mk (ho)
                                          clear HO_8
                                          clear HO_297005
                                          clear BK288
                                          clear BK296
                                          clear HB
                                          clear HO_297006
                                          have HO_8 := n0_
                                          have HO_297005 := n1_
                                          have BK288 := n2_
                                          have BK296 := n3_
                                          have HB := n4_
                                          have HO317 := n5_
                                          clear n0_ n1_ n2_ n3_ n4_ n5_
                                          clear ho hb hg hat
                                          obtain ⟨Ao65, co65, eo65⟩ := Kd.R_slice HO317.out
                                          (first | subst eo65 | (injection eo65 with f1_ f2_ f3_; have f4_ := f1_.symm; have f5_ := f3_.symm; clear f1_ f2_ f3_; subst f4_; subst f5_))
                                          refine hK.out _ _ ?_
                                          clear hK K
                                          refine norm_ (a' := ?_) ?_ ?_
                                          rotate_left
                                          · show Act.put _ (some 120) _ = _
                                            simp only [Act.put, List.setIfInBounds_toArray, List.set_cons_zero, List.set_cons_succ, i64_w, i32_w]
                                            rfl
                                          refine pure_ (i := 16) (N := some 121) (v := ?_) (a' := ?_) #[true, true, true, true, true, true, true, true, true, true, true, true, true, true, true, true, true, false] rfl rfl (any_of HT_.out (by kernel_rfl)) (fun _ _ _ h => h) (Or.inl ⟨by rfl, ?_⟩) ?_ ?_
                                          rotate_left
                                          · intro w'
                                            go_simp
                                            with_reducible rfl
                                          rotate_left
                                          · simp only [Act.put, List.setIfInBounds_toArray, List.set_cons_zero, List.set_cons_succ, i64_w, i32_w]
                                            rfl
                                          refine last_ (i := 17) (N := none) #[true, true, true, true, true, true, true, true, true, true, true, true, true, true, true, true, true, true] rfl rfl (one_of HT_.out (by kernel_rfl)) (by decide) (fun K hK => ?_)
                                          have hs66 : w64.cell? ⟨gb296, 6, none⟩ = some (u297006) := (blk_cell BK296.out 6).trans rfl
                                          have hfs66 := blk_frozen BK296.out 6
                                          have hns66_0 := NB288_296.out
                                          have hms66_0 := NB296_288.out
                                          refine skip_ (w1 := ?_) (by rfl) rfl ?_ ?_
                                          rotate_left
                                          · go_simp
                                            rfl
                                          refine hK.out _ _ ?_
                                          clear hK K
                                          refine done_ (done_of HT_.out (by kernel_rfl)) ?_
                                          try go_wp2
                                          go_roundg k3
                                          case measure => have := HJ12.out; have := HJ40.out; have := HK3.out; omega
                                          case rel => exact ⟨(wrap64 (x9_3 + 1)), (y315), (.slice Ao65 y315.length co65), (by first | rfl | (simp; done) | (simp [*]; done)), H', ⟨by have := HJ12.out; have := HJ40.out; have := HK3.out; omega⟩, ⟨by (with_reducible repeat (first | apply Kd.R_alloc | apply Kd.R_drewN | apply Kd.R_drew)); exact Kd.R_mono (Kd.R_far (p := ⟨gb296, 6, none⟩) (Kd.R_types HO_8.out BK296.out (by decide)) (fun _ hk => hk.2) (.slice Ao65 y315.length co65)) (fun _ hk => hk.1)⟩, ⟨by (with_reducible repeat (first | apply Kd.R_alloc | apply Kd.R_drewN | apply Kd.R_drew)); exact Kd.R_mono (Kd.R_far (p := ⟨gb296, 6, none⟩) (Kd.R_types HO_297005.out BK296.out (by decide)) (fun _ hk => hk.2) (.slice Ao65 y315.length co65)) (fun _ hk => hk.1)⟩, ⟨by (with_reducible repeat (first | apply Kd.R_alloc | apply Kd.R_drewN | apply Kd.R_drew)); exact Kd.R_mono (Kd.R_far (p := ⟨gb296, 6, none⟩) (Kd.R_types HO317.out BK296.out (by decide)) (fun _ hk => hk.2) (.slice Ao65 y315.length co65)) (fun _ hk => trivial)⟩, ⟨by (with_reducible repeat (first | refine blk_drewN ?_ _ | refine blk_drew ?_ | refine blk_alloc ?_ _)); refine blk_far ?_ NB288_296.out _; (with_reducible repeat (first | refine blk_drewN ?_ _ | refine blk_drew ?_ | refine blk_alloc ?_ _)); exact BK288.out⟩, ⟨by (with_reducible repeat (first | refine blk_drewN ?_ _ | refine blk_drew ?_ | refine blk_alloc ?_ _)); refine blk_put (cs := #[.int .i64 (rd t289 0), .int .i64 (rd t289 1), .int .i64 (rd t289 2), .string t297, .string t299, .slice Ao43 t303.length co43, u297006]) ?_ 6 _ rfl; (with_reducible repeat (first | refine blk_drewN ?_ _ | refine blk_drew ?_ | refine blk_alloc ?_ _)); exact BK296.out⟩, ⟨by repeat (first | (with_reducible first | exact HB.out | apply below_alloc | apply pw_below_drewN | apply below_drew1 | refine below_set ?_ GE288.out | refine below_set ?_ GE296.out) | exact HB.out)⟩⟩
                                        · rw [if_neg c61] at H
                                          exact absurd H (by simp)
                                      · rw [if_neg c60] at H
                                        exact absurd H (by simp)
                                    · rw [if_neg c59] at H
                                      exact absurd H (by simp)
                                  · rw [if_neg c57] at H
                                    exact absurd H (by simp)
                                · rw [if_neg c56] at H
                                  exact absurd H (by simp)
                              · rw [if_neg c54] at H
                                have c54b0 : decide (x9_3 < t307) = false := decide_eq_false c54
                                clear c54
                                simp only [Option.some.injEq, Prod.mk.injEq] at H
                                obtain ⟨rfl, rfl, rfl, rfl, rfl, rfl, rfl, rfl⟩ := H
                                have hnb67 := NB296_288.out
                                have hnc67 := NB288_296.out
                                have hcz68_0 : wr.cell? ⟨gb296, 0, none⟩ = some (.int .i64 (rd t289 0)) := (blk_cell BK296.out 0).trans rfl
                                have hcz68_1 : wr.cell? ⟨gb296, 1, none⟩ = some (.int .i64 (rd t289 1)) := (blk_cell BK296.out 1).trans rfl
                                have hcz68_2 : wr.cell? ⟨gb296, 2, none⟩ = some (.int .i64 (rd t289 2)) := (blk_cell BK296.out 2).trans rfl
                                have hcz68_3 : wr.cell? ⟨gb296, 3, none⟩ = some (.string t297) := (blk_cell BK296.out 3).trans rfl
                                have hcz68_4 : wr.cell? ⟨gb296, 4, none⟩ = some (.string t299) := (blk_cell BK296.out 4).trans rfl
                                have hcz68_5 : wr.cell? ⟨gb296, 5, none⟩ = some (.slice Ao43 t303.length co43) := (blk_cell BK296.out 5).trans rfl
                                have hcz68_6 : wr.cell? ⟨gb296, 6, none⟩ = some (u297006) := (blk_cell BK296.out 6).trans rfl
                                have hfz68_0 := blk_frozen BK296.out 0
                                have hfz68_1 := blk_frozen BK296.out 1
                                have hfz68_2 := blk_frozen BK296.out 2
                                have hfz68_3 := blk_frozen BK296.out 3
                                have hfz68_4 := blk_frozen BK296.out 4
                                have hfz68_5 := blk_frozen BK296.out 5
                                have hfz68_6 := blk_frozen BK296.out 6
                                have hcz69_0 : wr.cell? ⟨gb288, 0, none⟩ = some (.int .i64 0) := (blk_cell BK288.out 0).trans rfl
                                have hcz69_1 : wr.cell? ⟨gb288, 1, none⟩ = some (.int .i64 0) := (blk_cell BK288.out 1).trans rfl
                                have hcz69_2 : wr.cell? ⟨gb288, 2, none⟩ = some (.int .i64 0) := (blk_cell BK288.out 2).trans rfl
                                have hcz69_3 : wr.cell? ⟨gb288, 3, none⟩ = some (.string (⟨#[]⟩ : ByteArray)) := (blk_cell BK288.out 3).trans rfl
                                have hcz69_4 : wr.cell? ⟨gb288, 4, none⟩ = some (.string (⟨#[]⟩ : ByteArray)) := (blk_cell BK288.out 4).trans rfl
                                have hcz69_5 : wr.cell? ⟨gb288, 5, none⟩ = some (.slice none 0 0) := (blk_cell BK288.out 5).trans rfl
                                have hcz69_6 : wr.cell? ⟨gb288, 6, none⟩ = some (.slice none 0 0) := (blk_cell BK288.out 6).trans rfl
                                have hfz69_0 := blk_frozen BK288.out 0
                                have hfz69_1 := blk_frozen BK288.out 1
                                have hfz69_2 := blk_frozen BK288.out 2
                                have hfz69_3 := blk_frozen BK288.out 3
                                have hfz69_4 := blk_frozen BK288.out 4
                                have hfz69_5 := blk_frozen BK288.out 5
                                have hfz69_6 := blk_frozen BK288.out 6
                                obtain ⟨Ao70, co70, eo70⟩ := Kd.R_slice HO_297006.out
                                subst eo70
                                go_wp2
                                refine bodyPost_ret (results_ct rfl _ _ gb288 50 #[.int .i64 (rd t289 0), .int .i64 (rd t289 1), .int .i64 (rd t289 2), .string t297, .string t299, .slice Ao43 t303.length co43, .slice Ao70 x297006_3.length co70] (0, 0) _ rfl (by (with_reducible repeat (first | refine blk_drewN ?_ _ | refine blk_drew ?_ | refine blk_alloc ?_ _)); refine blk_put (cs := #[.int .i64 (rd t289 0), .int .i64 (rd t289 1), .int .i64 (rd t289 2), .string t297, .string t299, .slice Ao43 t303.length co43, .slice none 0 0]) ?_ 6 _ rfl; (with_reducible repeat (first | refine blk_drewN ?_ _ | refine blk_drew ?_ | refine blk_alloc ?_ _)); refine blk_put (cs := #[.int .i64 (rd t289 0), .int .i64 (rd t289 1), .int .i64 (rd t289 2), .string t297, .string t299, .slice none 0 0, .slice none 0 0]) ?_ 5 _ rfl; (with_reducible repeat (first | refine blk_drewN ?_ _ | refine blk_drew ?_ | refine blk_alloc ?_ _)); refine blk_put (cs := #[.int .i64 (rd t289 0), .int .i64 (rd t289 1), .int .i64 (rd t289 2), .string t297, .string (⟨#[]⟩ : ByteArray), .slice none 0 0, .slice none 0 0]) ?_ 4 _ rfl; (with_reducible repeat (first | refine blk_drewN ?_ _ | refine blk_drew ?_ | refine blk_alloc ?_ _)); refine blk_put (cs := #[.int .i64 (rd t289 0), .int .i64 (rd t289 1), .int .i64 (rd t289 2), .string (⟨#[]⟩ : ByteArray), .string (⟨#[]⟩ : ByteArray), .slice none 0 0, .slice none 0 0]) ?_ 3 _ rfl; (with_reducible repeat (first | refine blk_drewN ?_ _ | refine blk_drew ?_ | refine blk_alloc ?_ _)); refine blk_put (cs := #[.int .i64 (rd t289 0), .int .i64 (rd t289 1), .int .i64 0, .string (⟨#[]⟩ : ByteArray), .string (⟨#[]⟩ : ByteArray), .slice none 0 0, .slice none 0 0]) ?_ 2 _ rfl; (with_reducible repeat (first | refine blk_drewN ?_ _ | refine blk_drew ?_ | refine blk_alloc ?_ _)); refine blk_put (cs := #[.int .i64 (rd t289 0), .int .i64 0, .int .i64 0, .string (⟨#[]⟩ : ByteArray), .string (⟨#[]⟩ : ByteArray), .slice none 0 0, .slice none 0 0]) ?_ 1 _ rfl; (with_reducible repeat (first | refine blk_drewN ?_ _ | refine blk_drew ?_ | refine blk_alloc ?_ _)); refine blk_put (cs := #[.int .i64 0, .int .i64 0, .int .i64 0, .string (⟨#[]⟩ : ByteArray), .string (⟨#[]⟩ : ByteArray), .slice none 0 0, .slice none 0 0]) ?_ 0 _ rfl; (with_reducible repeat (first | refine blk_drewN ?_ _ | refine blk_drew ?_ | refine blk_alloc ?_ _)); exact BK288.out) Try.underlying50 rfl (by kernel_rfl)) rfl ?_
                                exact ⟨_, _, by first | rfl | (simp [errW_none, errW_some] <;> rfl) | (simp [*, errW_none, errW_some] <;> rfl), by (with_reducible repeat (first | apply Kd.R_alloc | apply Kd.R_drewN | apply Kd.R_drew)); exact Kd.R_mono (Kd.R_far (p := ⟨gb288, 6, none⟩) (Kd.R_far (p := ⟨gb288, 5, none⟩) (Kd.R_far (p := ⟨gb288, 4, none⟩) (Kd.R_far (p := ⟨gb288, 3, none⟩) (Kd.R_far (p := ⟨gb288, 2, none⟩) (Kd.R_far (p := ⟨gb288, 1, none⟩) (Kd.R_far (p := ⟨gb288, 0, none⟩) (Kd.R_types HO_297005.out BK288.out (by decide)) (fun _ hk => hk.2) (.int .i64 (rd t289 0))) (fun _ hk => hk.2) (.int .i64 (rd t289 1))) (fun _ hk => hk.2) (.int .i64 (rd t289 2))) (fun _ hk => hk.2) (.string t297)) (fun _ hk => hk.2) (.string t299)) (fun _ hk => hk.2) (.slice Ao43 t303.length co43)) (fun _ hk => hk.2) (.slice Ao70 x297006_3.length co70)) (fun _ hk => trivial), by (with_reducible repeat (first | apply Kd.R_alloc | apply Kd.R_drewN | apply Kd.R_drew)); exact Kd.R_mono (Kd.R_far (p := ⟨gb288, 6, none⟩) (Kd.R_far (p := ⟨gb288, 5, none⟩) (Kd.R_far (p := ⟨gb288, 4, none⟩) (Kd.R_far (p := ⟨gb288, 3, none⟩) (Kd.R_far (p := ⟨gb288, 2, none⟩) (Kd.R_far (p := ⟨gb288, 1, none⟩) (Kd.R_far (p := ⟨gb288, 0, none⟩) (Kd.R_types HO_297006.out BK288.out (by decide)) (fun _ hk => hk.2) (.int .i64 (rd t289 0))) (fun _ hk => hk.2) (.int .i64 (rd t289 1))) (fun _ hk => hk.2) (.int .i64 (rd t289 2))) (fun _ hk => hk.2) (.string t297)) (fun _ hk => hk.2) (.string t299)) (fun _ hk => hk.2) (.slice Ao43 t303.length co43)) (fun _ hk => hk.2) (.slice Ao70 x297006_3.length co70)) (fun _ hk => trivial), by repeat (first | (with_reducible first | exact HB.out | apply below_alloc | apply pw_below_drewN | apply below_drew1 | refine below_set ?_ GE288.out | refine below_set ?_ GE296.out) | exact HB.out)⟩
                        · rw [if_neg c52] at H
                          have c52b0 : (t310 == (l0.length : Int)) = false := beq_eq_false_iff_ne.mpr c52
                          have c52b1 : (t310 != (l0.length : Int)) = true := bne_iff_ne.mpr c52
                          simp only [Option.some.injEq, Prod.mk.injEq] at H
                          obtain ⟨rfl, rfl, rfl, rfl, rfl, rfl, rfl, rfl⟩ := H
                          go_wp2_with (first | ((with_reducible refine gate_callee (f := 47) rfl ?_); refine goesL_ (some 92) rfl rfl Try.func47 (by kernel_rfl) rfl #[.slice A0 l0.length c0, .int .i64 t308, .int .i64 (wrap64 (2 * t307))] rfl (by (try simp only [List.map_toArray, List.map_cons, List.map_nil]); first | done | rfl | (simp only [List.length_drop, List.length_take]; rfl)) ?_; (with_reducible refine (prebendref12_numbers.calls kj40 _ _ l0 t308 (wrap64 (2 * t307)) t309 t310 _ ?side1 ?side2 A51.out).mono ?_); (case side1 => repeat (first | exact (Kd.C_below HR0.out HB.out) | (with_reducible refine Kd.C_alloc ?_ _) | (with_reducible refine Kd.C_drewN ?_ _) | (with_reducible refine Kd.C_drew ?_))); (case side2 => exact HC0.out); rintro e w71 ⟨v311, rfl, ho0, hb⟩; refine ⟨_, rfl, ?_⟩; have n0_ := Aside0.mk (Kd.R_elder' (by (with_reducible repeat (first | apply Kd.R_alloc | apply Kd.R_drewN | apply Kd.R_drew)); exact HO_297005.out) (Kd.R_base ho0) hb); have n1_ := Aside0.mk (Kd.R_lower (Kd.R_new' ho0 (Kd.R_lt (by (with_reducible repeat (first | apply Kd.R_alloc | apply Kd.R_drewN | apply Kd.R_drew)); exact HO_297005.out))) (below_size (by repeat (first | (with_reducible first | exact HB.out | apply below_alloc | apply pw_below_drewN | apply below_drew1 | refine below_set ?_ GE288.out | refine below_set ?_ GE296.out) | exact HB.out)))); have n2_ := Aside0.mk (blk_below (g := gb288) (o := .cells #[.int .i64 0, .int .i64 0, .int .i64 0, .string (⟨#[]⟩ : ByteArray), .string (⟨#[]⟩ : ByteArray), .slice none 0 0, .slice none 0 0] 50 (0, 0)) (by (with_reducible repeat (first | refine blk_drewN ?_ _ | refine blk_drew ?_ | refine blk_alloc ?_ _)); exact BK288.out) hb); have n3_ := Aside0.mk (blk_below (g := gb296) (o := .cells #[.int .i64 (rd t289 0), .int .i64 (rd t289 1), .int .i64 (rd t289 2), .string t297, .string t299, .slice Ao43 t303.length co43, .slice none 0 0] 50 (0, 0)) (by (with_reducible repeat (first | refine blk_drewN ?_ _ | refine blk_drew ?_ | refine blk_alloc ?_ _)); exact BK296.out) hb); have n4_ := Aside0.mk (below_step (by repeat (first | (with_reducible first | exact HB.out | apply below_alloc | apply pw_below_drewN | apply below_drew1 | refine below_set ?_ GE288.out | refine below_set ?_ GE296.out) | exact HB.out)) hb); clear HO_297005; clear BK288; clear BK296; clear HB; have HO_297005 := n0_; have HO312 := n1_; have BK288 := n2_; have BK296 := n3_; have HB := n4_; clear n0_ n1_ n2_ n3_ n4_; (try clear hb); (try clear hb2); (try clear hk); (try clear hi); (try clear ho0); have hnb72 := NB288_296.out; have hnc72 := NB296_288.out; have hcz73_0 : w71.cell? ⟨gb288, 0, none⟩ = some (.int .i64 0) := (blk_cell BK288.out 0).trans rfl; have hcz73_1 : w71.cell? ⟨gb288, 1, none⟩ = some (.int .i64 0) := (blk_cell BK288.out 1).trans rfl; have hcz73_2 : w71.cell? ⟨gb288, 2, none⟩ = some (.int .i64 0) := (blk_cell BK288.out 2).trans rfl; have hcz73_3 : w71.cell? ⟨gb288, 3, none⟩ = some (.string (⟨#[]⟩ : ByteArray)) := (blk_cell BK288.out 3).trans rfl; have hcz73_4 : w71.cell? ⟨gb288, 4, none⟩ = some (.string (⟨#[]⟩ : ByteArray)) := (blk_cell BK288.out 4).trans rfl; have hcz73_5 : w71.cell? ⟨gb288, 5, none⟩ = some (.slice none 0 0) := (blk_cell BK288.out 5).trans rfl; have hcz73_6 : w71.cell? ⟨gb288, 6, none⟩ = some (.slice none 0 0) := (blk_cell BK288.out 6).trans rfl; have hfz73_0 := blk_frozen BK288.out 0; have hfz73_1 := blk_frozen BK288.out 1; have hfz73_2 := blk_frozen BK288.out 2; have hfz73_3 := blk_frozen BK288.out 3; have hfz73_4 := blk_frozen BK288.out 4; have hfz73_5 := blk_frozen BK288.out 5; have hfz73_6 := blk_frozen BK288.out 6))
                          refine bodyPost_ret (results_ct rfl _ _ gb288 50 #[.int .i64 0, .int .i64 0, .int .i64 0, .string (⟨#[]⟩ : ByteArray), .string (⟨#[]⟩ : ByteArray), .slice none 0 0, .slice none 0 0] (0, 0) _ rfl (by (with_reducible repeat (first | refine blk_drewN ?_ _ | refine blk_drew ?_ | refine blk_alloc ?_ _)); refine blk_put (cs := #[.int .i64 0, .int .i64 0, .int .i64 0, .string (⟨#[]⟩ : ByteArray), .string (⟨#[]⟩ : ByteArray), .slice none 0 0, .slice none 0 0]) ?_ 6 _ rfl; (with_reducible repeat (first | refine blk_drewN ?_ _ | refine blk_drew ?_ | refine blk_alloc ?_ _)); refine blk_put (cs := #[.int .i64 0, .int .i64 0, .int .i64 0, .string (⟨#[]⟩ : ByteArray), .string (⟨#[]⟩ : ByteArray), .slice none 0 0, .slice none 0 0]) ?_ 5 _ rfl; (with_reducible repeat (first | refine blk_drewN ?_ _ | refine blk_drew ?_ | refine blk_alloc ?_ _)); refine blk_put (cs := #[.int .i64 0, .int .i64 0, .int .i64 0, .string (⟨#[]⟩ : ByteArray), .string (⟨#[]⟩ : ByteArray), .slice none 0 0, .slice none 0 0]) ?_ 4 _ rfl; (with_reducible repeat (first | refine blk_drewN ?_ _ | refine blk_drew ?_ | refine blk_alloc ?_ _)); refine blk_put (cs := #[.int .i64 0, .int .i64 0, .int .i64 0, .string (⟨#[]⟩ : ByteArray), .string (⟨#[]⟩ : ByteArray), .slice none 0 0, .slice none 0 0]) ?_ 3 _ rfl; (with_reducible repeat (first | refine blk_drewN ?_ _ | refine blk_drew ?_ | refine blk_alloc ?_ _)); refine blk_put (cs := #[.int .i64 0, .int .i64 0, .int .i64 0, .string (⟨#[]⟩ : ByteArray), .string (⟨#[]⟩ : ByteArray), .slice none 0 0, .slice none 0 0]) ?_ 2 _ rfl; (with_reducible repeat (first | refine blk_drewN ?_ _ | refine blk_drew ?_ | refine blk_alloc ?_ _)); refine blk_put (cs := #[.int .i64 0, .int .i64 0, .int .i64 0, .string (⟨#[]⟩ : ByteArray), .string (⟨#[]⟩ : ByteArray), .slice none 0 0, .slice none 0 0]) ?_ 1 _ rfl; (with_reducible repeat (first | refine blk_drewN ?_ _ | refine blk_drew ?_ | refine blk_alloc ?_ _)); refine blk_put (cs := #[.int .i64 0, .int .i64 0, .int .i64 0, .string (⟨#[]⟩ : ByteArray), .string (⟨#[]⟩ : ByteArray), .slice none 0 0, .slice none 0 0]) ?_ 0 _ rfl; (with_reducible repeat (first | refine blk_drewN ?_ _ | refine blk_drew ?_ | refine blk_alloc ?_ _)); exact BK288.out) Try.underlying50 rfl (by kernel_rfl)) rfl ?_
                          exact ⟨_, _, by first | rfl | (simp [errW_none, errW_some] <;> rfl) | (simp [*, errW_none, errW_some] <;> rfl), by first | exact Kd.R_nil _ _ _ _ _ | exact Kd.N_nil _ _ _ _ _ | exact Kd.V_nil _ _ _ _ _ | exact Kd.Q_nil _ _ _ _ _ | exact Kd.S_nil _ _ _ _ _, by first | exact Kd.R_nil _ _ _ _ _ | exact Kd.N_nil _ _ _ _ _ | exact Kd.V_nil _ _ _ _ _ | exact Kd.Q_nil _ _ _ _ _ | exact Kd.S_nil _ _ _ _ _, by repeat (first | (with_reducible first | exact HB.out | apply below_alloc | apply pw_below_drewN | apply below_drew1 | refine below_set ?_ GE288.out | refine below_set ?_ GE296.out) | exact HB.out)⟩
        · rw [if_neg c9] at H
          exact absurd H (by simp)
      · rw [if_neg c8] at H
        exact absurd H (by simp)
    · rw [if_neg c7] at H
      exact absurd H (by simp)

end Go.Proofs.Ytjmkpcnekghmhaa.PAll
end
