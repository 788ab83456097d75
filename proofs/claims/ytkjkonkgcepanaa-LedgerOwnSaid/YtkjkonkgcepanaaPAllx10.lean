/- Contracts of functions of the program, each with a plain function of the same answers; written by a program of this workplace. -/
import Derived.Test.YtkjkonkgcepanaaPAllx0
namespace Go.Proofs.Ytkjkonkgcepanaa.PAll
open Go.RowKit Go.Proofs.YtkjkonkgcepanaaW.PrintWords Go.Proofs.YtkjkonkgcepanaaW.PrintLast Go.Proofs.YtkjkonkgcepanaaW.PrintMore
attribute [local go_sem] max2_int min2_int max_two min_two max_three min_three max_four min_four   -- for this text's walks alone
set_option linter.unusedVariables false
set_option linter.unusedSimpArgs false

/-! ### slices_Concat_int: function 24 -/
set_option maxHeartbeats 4000000 in
theorem grow_nil (n : Int) (w : World) (h0 : 0 ≤ n) (h1 : n < 1000000) :
    Calls Try.prog 27 #[.slice none 0 0, .int .i64 n] w fun e w' => ∃ v, e = .returned v ∧ Kd.R (Kd.int .i64) 3 w' w.heap.size (fun _ => True) v [] ∧ Below w.heap.size w w' := by
  have c1 : decide (n < 0) = false := decide_eq_false (by omega)
  have w1 : wrap64 n = n := by unfold wrap64; omega
  have w2 : wrap64 (n - 0) = n := by unfold wrap64; omega
  by_cases hz : 0 < n
  · have c2 : decide (0 < n) = true := decide_eq_true hz
    obtain ⟨i0, hi, _, hsz, _⟩ := info_parts info3
    have hs0 := cut_to (P := Try.prog) 40 3 .i64 Try.underlying40 hi none 0 0 0 (by omega) (by omega) (by omega)
    go_enter Try.func27, Try.ntmps27
    go_wp2_with (first | ((with_reducible refine gate_builtin (b := .append) (xs := #[.tmp 20, .tmp 21]) rfl ?_); refine Kd.R_append_zeros (Kd.int .i64) (w0 := w) w.heap.size rfl (.tmp 20) (.tmp 21) 40 3 3 (.int .i64 0) 8 rfl Try.underlying40 Try.underlying3 info3 rfl (by decide) (by omega) (.slice none 0 0) [] (0 : Int) n (fun _ => True) rfl rfl rfl (fun _ _ => trivial) (Kd.R_nil _ _ _ _ _) h0 (Below.refl _ _) (Nat.le_refl _) ?aL ?_; (case aL => simp; omega); intro v1 w1' ho hb hg hat; simp only [List.nil_append] at ho; obtain ⟨A1, cc, rfl, hcc, hC⟩ := Kd.R_reads ho; have hr := Kd.R_take (m := 0) ho (by omega); have hs1 := cut_to (P := Try.prog) 40 3 .i64 Try.underlying40 hi A1 (List.replicate n.toNat (0 : Int)).length cc 0 (by omega) (by omega) hcc))
    go_ret
    exact ⟨_, rfl, by simpa using hr, hb⟩
  · have c2 : decide (0 < n) = false := decide_eq_false hz
    go_enter Try.func27, Try.ntmps27
    go_wp2
    go_ret
    exact ⟨_, rfl, Kd.R_nil _ _ _ _ _, Below.refl _ _⟩
set_option maxHeartbeats 4000000 in
set_option maxRecDepth 100000 in
theorem concat_two (B : Nat) (A1 : Option Addr) (c1 : Nat) (x : Int) (A2 : Option Addr) (c2 : Nat) (ys : List Int) (w : World) (hB : B < w.heap.size) (hb0 : w.cell? ⟨B, 0, none⟩ = some (.slice A1 1 c1)) (hb1 : w.cell? ⟨B, 1, none⟩ = some (.slice A2 ys.length c2))
    (hr1 : Kd.C (Kd.int .i64) w A1 1 [x]) (hr2 : Kd.C (Kd.int .i64) w A2 ys.length ys) (hl : ys.length < 1000) :
    Calls Try.prog 24 #[.slice (some ⟨B, 0, none⟩) 2 2] w fun e w' => ∃ v, e = .returned v ∧ Kd.R (Kd.int .i64) 3 w' w.heap.size (fun _ => True) v (x :: ys) ∧ Below w.heap.size w w' := by
  have HR1 := Aside0.mk hr1
  have HR2 := Aside0.mk hr2
  have HLB := Aside0.mk hB
  have HB0 := Aside0.mk hb0
  have HB1 := Aside0.mk hb1
  have HL := Aside0.mk hl
  clear hr1 hr2 hB hl
  have e1 : wrap64 (ys.length : Int) = (ys.length : Int) := by have := HL.out; unfold wrap64; omega
  have e2 : wrap64 (1 + (ys.length : Int)) = 1 + (ys.length : Int) := by have := HL.out; unfold wrap64; omega
  have d1 : decide (1 + (ys.length : Int) < 0) = false := decide_eq_false (by omega)
  have d2 : decide ((ys.length : Int) < 0) = false := decide_eq_false (by omega)
  go_enter Try.func24, Try.ntmps24
  go_wp2
  go_loopg [3, 11] 3 (fun kq v3 v11 wc => (((v3 = .int .i64 0 ∧ v11 = .int .i64 0) ∨ (v3 = .int .i64 1 ∧ v11 = .int .i64 1) ∨ (v3 = .int .i64 (1 + (ys.length : Int)) ∧ v11 = .int .i64 2)) ∧ Aside0 (∃ i : Nat, v11 = .int .i64 (i : Int) ∧ 3 ≤ kq + i)) ∧ wc = w)
  case atStart => exact ⟨⟨Or.inl ⟨rfl, rfl⟩, ⟨0, rfl, by omega⟩⟩, rfl⟩
  case round =>
    obtain ⟨⟨hs, hk⟩, hw⟩ := hrel
    have hw2 := hw.symm
    clear hw
    subst hw2
    rcases hs with ⟨rfl, rfl⟩ | ⟨rfl, rfl⟩ | ⟨rfl, rfl⟩
    · obtain ⟨k1, rfl⟩ : ∃ k1, gk = k1 + 1 := by obtain ⟨i, h1, h2⟩ := hk.out; injection h1 with _ h1; exact ⟨gk - 1, by omega⟩
      go_wp2
      go_roundg k1
      case measure => omega
      case rel => exact ⟨⟨Or.inr (Or.inl ⟨rfl, rfl⟩), ⟨1, rfl, by obtain ⟨i, h1, h2⟩ := hk.out; injection h1 with _ h1; omega⟩⟩, rfl⟩
    · obtain ⟨k1, rfl⟩ : ∃ k1, gk = k1 + 1 := by obtain ⟨i, h1, h2⟩ := hk.out; injection h1 with _ h1; exact ⟨gk - 1, by omega⟩
      go_wp2
      go_roundg k1
      case measure => omega
      case rel => exact ⟨⟨Or.inr (Or.inr ⟨(by rw [e2]), rfl⟩), ⟨2, rfl, by obtain ⟨i, h1, h2⟩ := hk.out; injection h1 with _ h1; omega⟩⟩, rfl⟩
    · go_wp2_with (go_at_call 27; with_reducible refine (grow_nil (1 + (ys.length : Int)) _ (by omega) (by have := HL.out; omega)).mono ?_; rintro e w1 ⟨v, rfl, ho, hb⟩; have HO := Aside0.mk ho; have HB := Aside0.mk hb; clear ho hb)
      clear hb0 hb1 hk
      go_loopg [6, 27] 3 (fun kq v6 v27 wc => ∃ (i : Nat) (xs : List Int), v27 = .int .i64 (i : Int) ∧ Aside0 (3 ≤ kq + i ∧ i ≤ 2) ∧ Aside0 (xs = (x :: ys).take (if i = 0 then 0 else if i = 1 then 1 else 1 + ys.length)) ∧ Aside0 (Kd.R (Kd.int .i64) 3 wc w.heap.size (fun _ => True) v6 xs) ∧ Aside0 (Below w.heap.size w wc))
      case atStart => exact ⟨0, [], rfl, ⟨by omega⟩, ⟨rfl⟩, HO, HB⟩
      case round =>
        clear HO HB
        obtain ⟨i, xs, rfl, hi, hx, HO, HB⟩ := hrel
        have hb0 := (HB.out.cell (p := ⟨B, 0, none⟩) HLB.out).trans HB0.out
        have hb1 := (HB.out.cell (p := ⟨B, 1, none⟩) HLB.out).trans HB1.out
        have HC1 := Aside0.mk (Kd.C_below HR1.out HB.out)
        have HC2 := Aside0.mk (Kd.C_below HR2.out HB.out)
        have h3 := hi.out
        have hi3 : i = 0 ∨ i = 1 ∨ i = 2 := by omega
        rcases hi3 with rfl | rfl | rfl
        · obtain ⟨k1, rfl⟩ : ∃ k1, gk = k1 + 1 := ⟨gk - 1, by omega⟩
          have hx2 := hx.out
          simp only [if_true, List.take_zero] at hx2
          subst hx2
          go_wp2_with ((with_reducible refine gate_builtin (b := .append) (xs := #[.tmp 31, .tmp 32]) rfl ?_); refine Kd.R_append_rows (Kd.int .i64) (w0 := w) w.heap.size rfl (.tmp 31) (.tmp 32) 40 3 (.int .i64 0) 8 rfl Try.underlying40 info3 rfl (by decide) (by omega) _ [] [x] _ _ _ (fun _ => True) (fun _ => False) rfl rfl ?aO ?aR (fun _ _ h => h) (fun _ h => h.elim) ?aF ?aB ?aS ?aL ?_; (case aO => exact HO.out); (case aR => exact HC1.out); (case aF => exact fun _ _ => trivial); (case aB => exact HB.out); (case aS => exact HB.out.size); (case aL => simp); intro v1 w1' ho hb hg hat; have HO1 := Aside0.mk ho; have HB1' := Aside0.mk hb; clear ho hb hg hat)
          go_roundg k1
          case measure => omega
          case rel => exact ⟨1, [x], rfl, ⟨by omega⟩, ⟨rfl⟩, HO1, HB1'⟩
        · obtain ⟨k1, rfl⟩ : ∃ k1, gk = k1 + 1 := ⟨gk - 1, by omega⟩
          have hx2 := hx.out
          simp only [if_true, List.take_succ_cons, List.take_zero] at hx2
          have hx3 : xs = [x] := by simpa using hx2
          subst hx3
          go_wp2_with ((with_reducible refine gate_builtin (b := .append) (xs := #[.tmp 31, .tmp 32]) rfl ?_); refine Kd.R_append_rows (Kd.int .i64) (w0 := w) w.heap.size rfl (.tmp 31) (.tmp 32) 40 3 (.int .i64 0) 8 rfl Try.underlying40 info3 rfl (by decide) (by omega) _ [x] ys _ _ _ (fun _ => True) (fun _ => False) rfl rfl ?aO ?aR (fun _ _ h => h) (fun _ h => h.elim) ?aF ?aB ?aS ?aL ?_; (case aO => exact HO.out); (case aR => exact HC2.out); (case aF => exact fun _ _ => trivial); (case aB => exact HB.out); (case aS => exact HB.out.size); (case aL => have := HL.out; simp only [List.length_cons, List.length_nil]; omega); intro v1 w1' ho hb hg hat; have HO1 := Aside0.mk ho; have HB1' := Aside0.mk hb; clear ho hb hg hat)
          go_roundg k1
          case measure => omega
          case rel => exact ⟨2, x :: ys, rfl, ⟨by omega⟩, ⟨by rw [if_neg (by omega), if_neg (by omega), List.take_of_length_le (by simp; omega)]⟩, by simpa using HO1, HB1'⟩
        · have hx2 := hx.out
          rw [if_neg (by omega), if_neg (by omega), List.take_of_length_le (by simp; omega)] at hx2
          subst hx2
          go_wp2
          go_ret
          exact ⟨_, rfl, HO.out, HB.out⟩
end Go.Proofs.Ytkjkonkgcepanaa.PAll
