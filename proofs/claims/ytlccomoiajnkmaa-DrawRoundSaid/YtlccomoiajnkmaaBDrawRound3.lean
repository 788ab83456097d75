/- Words, plain functions and contracts of the functions that the law of this claim reaches; no conditions. -/
import Derived.Test.YtlccomoiajnkmaaBDrawRound2
section
namespace Go.Proofs.Ytlccomoiajnkmaa.PAll
open Go.RowKit Go.Proofs.YtlccomoiajnkmaaW.PrintWords Go.Proofs.YtlccomoiajnkmaaW.PrintLast Go.Proofs.YtlccomoiajnkmaaW.PrintMore
attribute [local go_sem] max2_int min2_int max_two min_two max_three min_three max_four min_four   -- for this text's walks alone
set_option linter.unusedVariables false
set_option linter.unusedSimpArgs false

def slices_Clone_Alloc.f (l0 : List (S46)) : Option ((List (S46))) := (some (([] : List (S46)) : List (S46))).bind fun y424 => (if y424.length + l0.length < 2932031007402 then (some (y424 ++ l0)) else (none))
set_option maxHeartbeats 8000000 in
set_option maxRecDepth 100000 in
theorem slices_Clone_Alloc.calls_some (ad0_ : Addr) (c0 : Nat) (l0 : List (S46)) (r : List (S46)) (w : World) (hr0 : Kd.C k46 w (some ad0_) l0.length l0) (hc0 : l0.length ≤ c0) (h : slices_Clone_Alloc.f l0 = some r) :
    Calls Try.prog 41 #[.slice (some ad0_) l0.length c0] w fun e w' => ∃ v0_ : Value, e = .returned (v0_) ∧ Kd.R k46 46 w' w.heap.size (fun _ => True) v0_ r ∧ Below w.heap.size w w' := by
  have HR0 := Aside0.mk hr0
  have HC0 := Aside0.mk hc0
  clear hr0 hc0
  have HB := Aside0.mk (Below.refl w.heap.size w)
  have H : ((some (([] : List (S46)) : List (S46))).bind fun y424 => (if y424.length + l0.length < 2932031007402 then (some (y424 ++ l0)) else (none))) = some r := h
  clear h
  obtain ⟨y424, hy424⟩ : ∃ y_ : List (S46), y_ = (([] : List (S46))) := ⟨_, rfl⟩
  replace H : (if y424.length + l0.length < 2932031007402 then (some (y424 ++ l0)) else (none)) = some r := by first | (rw [hy424]; with_reducible exact H) | (have H2_ := (Option.bind_some _ _).symm.trans H; rw [hy424]; with_reducible exact H2_) | (have H2_ := (Option.bind_some _ _).symm.trans H; with_reducible exact H2_) | with_reducible exact H | (rw [hy424]; exact H) | exact H
  have Ny424 := Aside0.mk hy424
  clear hy424
  by_cases c2 : y424.length + l0.length < 2932031007402
  · rw [if_pos c2] at H
    have LMc2 := Aside0.mk c2
    clear c2
    obtain ⟨y427, hy427⟩ : ∃ y_ : List (S46), y_ = (y424 ++ l0) := ⟨_, rfl⟩
    replace H : (some y427) = some r := by first | (rw [hy427]; with_reducible exact H) | (have H2_ := (Option.bind_some _ _).symm.trans H; rw [hy427]; with_reducible exact H2_) | (have H2_ := (Option.bind_some _ _).symm.trans H; with_reducible exact H2_) | with_reducible exact H | (rw [hy427]; exact H) | exact H
    have Ny427 := Aside0.mk hy427
    clear hy427
    obtain rfl := Option.some.inj H
    have hnil_ := fun (W : World) => Lib.run_eql_slice_nil (P := Try.prog) W 23 46 (some ad0_) l0.length c0 0 0 Try.underlying23
    go_enter Try.func41, Try.ntmps41
    go_wp2_with (first | ((with_reducible refine gate_dst (N := 5) rfl ?_); refine Kd.R_lit k46 _ 46 ?hg (N := 5) ?hd (xs := ([] : List (S46))) (inner := []) (ok := fun _ => True) (okp := fun _ => True) ?hr ?hp (fun _ hk => hk) trivial (Below.refl _ _) (Nat.le_refl _) (by simp) ?_; (case hd => rfl); (case hg => rfl); (case hr => first | (go_simp; done) | (go_simp; rfl)); (case hp => exact (Reps.none _ _)); intro v425 w3 ho4 hb hg_ hnew_; clear hg_ hnew_; (first | rw [← Ny424.out] at ho4 | (simp only [Int.reduceToNat] at ho4; rw [← Ny424.out] at ho4)); have n0_ := Aside0.mk (Kd.R_lower ho4 (below_size (by repeat (first | (with_reducible first | exact HB.out | apply below_alloc | apply pw_below_drewN | apply below_drew1) | exact HB.out)))); have n1_ := Aside0.mk (below_step (by repeat (first | (with_reducible first | exact HB.out | apply below_alloc | apply pw_below_drewN | apply below_drew1) | exact HB.out)) hb); clear HB; have HO426 := n0_; have HB := n1_; clear n0_ n1_; clear hb ho4) | ((with_reducible refine gate_builtin (b := .append) (xs := #[.tmp 5, .tmp 6]) rfl ?_); at_builtin; refine Kd.R_append_rows k46 (w0 := w) w.heap.size rfl (.tmp 5) (.tmp 6) 23 46 (.agg #[(.int .i64 0), (.int .i64 0), (.int .i64 0), (.int .i64 0), (.int .i64 0), (.int .i64 0)]) 48 rfl Try.underlying23 info46 rfl (by decide) (by omega) v425 y424 l0 _ _ _ (fun _ => True) (fun _ => False) rfl rfl ?aO ?aR (fun _ _ h => h) (fun _ h => h.elim) ?aF ?aB ?aS ?aL ?_; (case aR => repeat (first | exact (Kd.C_below HR0.out HB.out) | (with_reducible refine Kd.C_alloc ?_ _) | (with_reducible refine Kd.C_drewN ?_ _) | (with_reducible refine Kd.C_drew ?_))); (case aB => exact (by repeat (first | (with_reducible first | exact HB.out | apply below_alloc | apply pw_below_drewN | apply below_drew1) | exact HB.out))); (case aF => exact (fun _ _ => trivial)); (case aO => exact (by (with_reducible repeat (first | apply Kd.R_alloc | apply Kd.R_drewN | apply Kd.R_drew)); exact HO426.out)); (case aS => exact (below_size (by repeat (first | (with_reducible first | exact HB.out | apply below_alloc | apply pw_below_drewN | apply below_drew1) | exact HB.out)))); (case aL => have := LMc2.out; omega); intro v428 w5 ho hb hg hat; rw [← Ny427.out] at ho; have n0_ := Aside0.mk (hb); have n1_ := Aside0.mk (ho); clear HB; clear HO426; have HB := n0_; have HO429 := n1_; clear n0_ n1_; clear ho hb hg hat))
    go_ret
    exact ⟨_, by first | rfl | (simp [errW_none, errW_some] <;> rfl) | (simp [*, errW_none, errW_some] <;> rfl), by (with_reducible repeat (first | apply Kd.R_alloc | apply Kd.R_drewN | apply Kd.R_drew)); exact HO429.out, by repeat (first | (with_reducible first | exact HB.out | apply below_alloc | apply pw_below_drewN | apply below_drew1) | exact HB.out)⟩
  · rw [if_neg c2] at H
    exact absurd H (by simp)

set_option maxHeartbeats 8000000 in
theorem slices_Clone_Alloc.calls (A0 : Option Addr) (c0 : Nat) (l0 : List (S46)) (r : List (S46)) (w : World) (hr0 : Kd.C k46 w A0 l0.length l0) (hc0 : l0.length ≤ c0) (h : slices_Clone_Alloc.f l0 = some r) :
    Calls Try.prog 41 #[.slice A0 l0.length c0] w fun e w' => ∃ v0_ : Value, e = .returned (v0_) ∧ Kd.R k46 46 w' w.heap.size (fun _ => True) v0_ r ∧ Below w.heap.size w w' := by
  cases A0 with
  | some ad0_ => exact slices_Clone_Alloc.calls_some ad0_ c0 l0 r w hr0 hc0 h
  | none =>
    have hl : l0 = [] := by
      cases l0 with
      | nil => rfl
      | cons x xs => obtain ⟨ad, he, _⟩ := hr0.2.2 (by simp); cases he
    subst hl
    have hr : r = [] := by
      simp [slices_Clone_Alloc.f] at h; first | exact h | exact h.symm
    subst hr
    have hnil_ := fun (W : World) => Lib.run_eql_slice_nil (P := Try.prog) W 23 46 none 0 c0 0 0 Try.underlying23
    clear hr0 hc0 h
    go_enter Try.func41, Try.ntmps41
    go_wp2
    go_ret
    exact ⟨_, rfl, Kd.R_nil _ _ _ _ _, Below.refl _ _⟩

end Go.Proofs.Ytlccomoiajnkmaa.PAll
end
section
namespace Go.Proofs.Ytlccomoiajnkmaa.PAll
open Go.RowKit Go.Proofs.YtlccomoiajnkmaaW.PrintWords Go.Proofs.YtlccomoiajnkmaaW.PrintLast Go.Proofs.YtlccomoiajnkmaaW.PrintMore
attribute [local go_sem] max2_int min2_int max_two min_two max_three min_three max_four min_four   -- for this text's walks alone
set_option linter.unusedVariables false
set_option linter.unusedSimpArgs false

set_option maxHeartbeats 4000000 in
theorem grow_nil (n : Int) (w : World) (h0 : 0 ≤ n) (h1 : n < 1000000) :
    Calls Try.prog 51 #[.slice none 0 0, .int .i64 n] w fun e w' => ∃ v, e = .returned v ∧ Kd.R (Kd.int .i64) 3 w' w.heap.size (fun _ => True) v [] ∧ Below w.heap.size w w' := by
  have c1 : decide (n < 0) = false := decide_eq_false (by omega)
  have w1 : wrap64 n = n := by unfold wrap64; omega
  have w2 : wrap64 (n - 0) = n := by unfold wrap64; omega
  by_cases hz : 0 < n
  · have c2 : decide (0 < n) = true := decide_eq_true hz
    obtain ⟨i0, hi, _, hsz, _⟩ := info_parts info3
    have hs0 := cut_to (P := Try.prog) 43 3 .i64 Try.underlying43 hi none 0 0 0 (by omega) (by omega) (by omega)
    go_enter Try.func51, Try.ntmps51
    go_wp2_with (first | ((with_reducible refine gate_builtin (b := .append) (xs := #[.tmp 20, .tmp 21]) rfl ?_); refine Kd.R_append_zeros (Kd.int .i64) (w0 := w) w.heap.size rfl (.tmp 20) (.tmp 21) 43 3 3 (.int .i64 0) 8 rfl Try.underlying43 Try.underlying3 info3 rfl (by decide) (by omega) (.slice none 0 0) [] (0 : Int) n (fun _ => True) rfl rfl rfl (fun _ _ => trivial) (Kd.R_nil _ _ _ _ _) h0 (Below.refl _ _) (Nat.le_refl _) ?aL ?_; (case aL => simp; omega); intro v1 w1' ho hb hg hat; simp only [List.nil_append] at ho; obtain ⟨A1, cc, rfl, hcc, hC⟩ := Kd.R_reads ho; have hr := Kd.R_take (m := 0) ho (by omega); have hs1 := cut_to (P := Try.prog) 43 3 .i64 Try.underlying43 hi A1 (List.replicate n.toNat (0 : Int)).length cc 0 (by omega) (by omega) hcc))
    go_ret
    exact ⟨_, rfl, by simpa using hr, hb⟩
  · have c2 : decide (0 < n) = false := decide_eq_false hz
    go_enter Try.func51, Try.ntmps51
    go_wp2
    go_ret
    exact ⟨_, rfl, Kd.R_nil _ _ _ _ _, Below.refl _ _⟩
set_option maxHeartbeats 4000000 in
set_option maxRecDepth 100000 in
theorem concat_two (B : Nat) (A1 : Option Addr) (c1 : Nat) (x : Int) (A2 : Option Addr) (c2 : Nat) (ys : List Int) (w : World) (hB : B < w.heap.size) (hb0 : w.cell? ⟨B, 0, none⟩ = some (.slice A1 1 c1)) (hb1 : w.cell? ⟨B, 1, none⟩ = some (.slice A2 ys.length c2))
    (hr1 : Kd.C (Kd.int .i64) w A1 1 [x]) (hr2 : Kd.C (Kd.int .i64) w A2 ys.length ys) (hl : ys.length < 1000) :
    Calls Try.prog 44 #[.slice (some ⟨B, 0, none⟩) 2 2] w fun e w' => ∃ v, e = .returned v ∧ Kd.R (Kd.int .i64) 3 w' w.heap.size (fun _ => True) v (x :: ys) ∧ Below w.heap.size w w' := by
  have HR1 := Aside0.mk hr1
  have HR2 := Aside0.mk hr2
  have HLB := Aside0.mk hB
  have HB0 := Aside0.mk hb0
  have HB1 := Aside0.mk hb1
  have HL := Aside0.mk hl
  clear hr1 hr2 hB hl
  have e1 : wrap64 (ys.length : Int) = (ys.length : Int) := by have := HL.out; unfold wrap64; omega
  have e2 : wrap64 (1 + (ys.length : Int)) = 1 + (ys.length : Int) := by have := HL.out; unfold wrap64; omega
  have d1 : decide (1 + (ys.length : Int) < 0) = false := decide_eq_false (by omega)
  have d2 : decide ((ys.length : Int) < 0) = false := decide_eq_false (by omega)
  go_enter Try.func44, Try.ntmps44
  go_wp2
  go_loopg [3, 11] 3 (fun kq v3 v11 wc => (((v3 = .int .i64 0 ∧ v11 = .int .i64 0) ∨ (v3 = .int .i64 1 ∧ v11 = .int .i64 1) ∨ (v3 = .int .i64 (1 + (ys.length : Int)) ∧ v11 = .int .i64 2)) ∧ Aside0 (∃ i : Nat, v11 = .int .i64 (i : Int) ∧ 3 ≤ kq + i)) ∧ wc = w)
  case atStart => exact ⟨⟨Or.inl ⟨rfl, rfl⟩, ⟨0, rfl, by omega⟩⟩, rfl⟩
  case round =>
    obtain ⟨⟨hs, hk⟩, hw⟩ := hrel
    have hw2 := hw.symm
    clear hw
    subst hw2
    rcases hs with ⟨rfl, rfl⟩ | ⟨rfl, rfl⟩ | ⟨rfl, rfl⟩
    · obtain ⟨k1, rfl⟩ : ∃ k1, gk = k1 + 1 := by obtain ⟨i, h1, h2⟩ := hk.out; injection h1 with _ h1; exact ⟨gk - 1, by omega⟩
      go_wp2
      go_roundg k1
      case measure => omega
      case rel => exact ⟨⟨Or.inr (Or.inl ⟨rfl, rfl⟩), ⟨1, rfl, by obtain ⟨i, h1, h2⟩ := hk.out; injection h1 with _ h1; omega⟩⟩, rfl⟩
    · obtain ⟨k1, rfl⟩ : ∃ k1, gk = k1 + 1 := by obtain ⟨i, h1, h2⟩ := hk.out; injection h1 with _ h1; exact ⟨gk - 1, by omega⟩
      go_wp2
      go_roundg k1
      case measure => omega
      case rel => exact ⟨⟨Or.inr (Or.inr ⟨(by rw [e2]), rfl⟩), ⟨2, rfl, by obtain ⟨i, h1, h2⟩ := hk.out; injection h1 with _ h1; omega⟩⟩, rfl⟩
    · go_wp2_with (go_at_call 51; with_reducible refine (grow_nil (1 + (ys.length : Int)) _ (by omega) (by have := HL.out; omega)).mono ?_; rintro e w1 ⟨v, rfl, ho, hb⟩; have HO := Aside0.mk ho; have HB := Aside0.mk hb; clear ho hb)
      clear hb0 hb1 hk
      go_loopg [6, 27] 3 (fun kq v6 v27 wc => ∃ (i : Nat) (xs : List Int), v27 = .int .i64 (i : Int) ∧ Aside0 (3 ≤ kq + i ∧ i ≤ 2) ∧ Aside0 (xs = (x :: ys).take (if i = 0 then 0 else if i = 1 then 1 else 1 + ys.length)) ∧ Aside0 (Kd.R (Kd.int .i64) 3 wc w.heap.size (fun _ => True) v6 xs) ∧ Aside0 (Below w.heap.size w wc))
      case atStart => exact ⟨0, [], rfl, ⟨by omega⟩, ⟨rfl⟩, HO, HB⟩
      case round =>
        clear HO HB
        obtain ⟨i, xs, rfl, hi, hx, HO, HB⟩ := hrel
        have hb0 := (HB.out.cell (p := ⟨B, 0, none⟩) HLB.out).trans HB0.out
        have hb1 := (HB.out.cell (p := ⟨B, 1, none⟩) HLB.out).trans HB1.out
        have HC1 := Aside0.mk (Kd.C_below HR1.out HB.out)
        have HC2 := Aside0.mk (Kd.C_below HR2.out HB.out)
        have h3 := hi.out
        have hi3 : i = 0 ∨ i = 1 ∨ i = 2 := by omega
        rcases hi3 with rfl | rfl | rfl
        · obtain ⟨k1, rfl⟩ : ∃ k1, gk = k1 + 1 := ⟨gk - 1, by omega⟩
          have hx2 := hx.out
          simp only [if_true, List.take_zero] at hx2
          subst hx2
          go_wp2_with ((with_reducible refine gate_builtin (b := .append) (xs := #[.tmp 31, .tmp 32]) rfl ?_); refine Kd.R_append_rows (Kd.int .i64) (w0 := w) w.heap.size rfl (.tmp 31) (.tmp 32) 43 3 (.int .i64 0) 8 rfl Try.underlying43 info3 rfl (by decide) (by omega) _ [] [x] _ _ _ (fun _ => True) (fun _ => False) rfl rfl ?aO ?aR (fun _ _ h => h) (fun _ h => h.elim) ?aF ?aB ?aS ?aL ?_; (case aO => exact HO.out); (case aR => exact HC1.out); (case aF => exact fun _ _ => trivial); (case aB => exact HB.out); (case aS => exact HB.out.size); (case aL => simp); intro v1 w1' ho hb hg hat; have HO1 := Aside0.mk ho; have HB1' := Aside0.mk hb; clear ho hb hg hat)
          go_roundg k1
          case measure => omega
          case rel => exact ⟨1, [x], rfl, ⟨by omega⟩, ⟨rfl⟩, HO1, HB1'⟩
        · obtain ⟨k1, rfl⟩ : ∃ k1, gk = k1 + 1 := ⟨gk - 1, by omega⟩
          have hx2 := hx.out
          simp only [if_true, List.take_succ_cons, List.take_zero] at hx2
          have hx3 : xs = [x] := by simpa using hx2
          subst hx3
          go_wp2_with ((with_reducible refine gate_builtin (b := .append) (xs := #[.tmp 31, .tmp 32]) rfl ?_); refine Kd.R_append_rows (Kd.int .i64) (w0 := w) w.heap.size rfl (.tmp 31) (.tmp 32) 43 3 (.int .i64 0) 8 rfl Try.underlying43 info3 rfl (by decide) (by omega) _ [x] ys _ _ _ (fun _ => True) (fun _ => False) rfl rfl ?aO ?aR (fun _ _ h => h) (fun _ h => h.elim) ?aF ?aB ?aS ?aL ?_; (case aO => exact HO.out); (case aR => exact HC2.out); (case aF => exact fun _ _ => trivial); (case aB => exact HB.out); (case aS => exact HB.out.size); (case aL => have := HL.out; simp only [List.length_cons, List.length_nil]; omega); intro v1 w1' ho hb hg hat; have HO1 := Aside0.mk ho; have HB1' := Aside0.mk hb; clear ho hb hg hat)
          go_roundg k1
          case measure => omega
          case rel => exact ⟨2, x :: ys, rfl, ⟨by omega⟩, ⟨by rw [if_neg (by omega), if_neg (by omega), List.take_of_length_le (by simp; omega)]⟩, by simpa using HO1, HB1'⟩
        · have hx2 := hx.out
          rw [if_neg (by omega), if_neg (by omega), List.take_of_length_le (by simp; omega)] at hx2
          subst hx2
          go_wp2
          go_ret
          exact ⟨_, rfl, HO.out, HB.out⟩
end Go.Proofs.Ytlccomoiajnkmaa.PAll
end
section
namespace Go.Proofs.Ytlccomoiajnkmaa.PAll
open Go.RowKit Go.Proofs.YtlccomoiajnkmaaW.PrintWords Go.Proofs.YtlccomoiajnkmaaW.PrintLast Go.Proofs.YtlccomoiajnkmaaW.PrintMore
attribute [local go_sem] max2_int min2_int max_two min_two max_three min_three max_four min_four   -- for this text's walks alone
set_option linter.unusedVariables false
set_option linter.unusedSimpArgs false

def fieldOf (x : S46) (m : Int) : Int := if m = 0 then x.f3 else if m = 1 then x.f4 else x.f5
def acctOf (a0 : Int) (l : List S46) (a : Int) : Int := if a = 0 then a0 else fieldOf (rd_T46 l ((a - 1) / 3)) ((a - 1) % 3)
theorem clone_f (l : List S46) (h : (l.length : Int) < 1000000) : slices_Clone_Alloc.f l = some l := by
  unfold slices_Clone_Alloc.f; simp only [Option.bind_some]; rw [if_pos (by simp; omega)]; rfl
theorem clip_at (A : Option Addr) (n c : Nat) (w : World) (hc : n ≤ c) :
    Calls Try.prog 40 #[.slice A n c] w fun e w' => e = .returned (.slice A n n) ∧ w' = w := by
  have hcut := slices_Clip_Alloc.cut A n c hc
  go_enter Try.func40, Try.ntmps40
  go_wp2
  go_ret
  exact ⟨rfl, rfl⟩
def offOf (acct : Int) : Nat := ((acct - 1) / 3).toNat * 6 + 3 + ((acct - 1) % 3).toNat
def withField (x : S46) (m v : Int) : S46 := if m = 0 then ⟨x.f0, x.f1, x.f2, v, x.f4, x.f5⟩ else if m = 1 then ⟨x.f0, x.f1, x.f2, x.f3, v, x.f5⟩ else ⟨x.f0, x.f1, x.f2, x.f3, x.f4, v⟩
def setAcct (l : List S46) (a v : Int) : List S46 := l.set ((a - 1) / 3).toNat (withField (rd_T46 l ((a - 1) / 3)) ((a - 1) % 3) v)
theorem place_in (q : Addr) (g n c : Nat) (acct : Int) (w : World) (h0 : 0 < acct) (h1 : acct ≤ 3 * (n : Int)) (hn : n < 1000000) :
    Calls Try.prog 43 #[.pointer (some q), .slice (some ⟨g, 0, none⟩) n c, .int .i64 acct] w fun e w' => e = .returned (.pointer (some ⟨g, offOf acct, none⟩)) ∧ Below w.heap.size w w' := by
  obtain ⟨j, hj⟩ : ∃ j : Nat, (acct - 1) / 3 = (j : Int) := ⟨((acct - 1) / 3).toNat, by omega⟩
  have hm : (acct - 1) % 3 = 0 ∨ (acct - 1) % 3 = 1 ∨ (acct - 1) % 3 = 2 := by omega
  have ho : offOf acct = j * 6 + 3 + ((acct - 1) % 3).toNat := by unfold offOf; rw [hj]; simp
  rcases hm with hm | hm | hm
  · have := place_at0 (some q) ⟨g, 0, none⟩ n c acct j w (by omega) (by omega) hn
    rw [add_plain] at this; rw [ho, hm]; exact this
  · have := place_at1 (some q) ⟨g, 0, none⟩ n c acct j w (by omega) (by omega) hn
    rw [add_plain] at this; rw [ho, hm]; exact this
  · have := place_at2 (some q) ⟨g, 0, none⟩ n c acct j w (by omega) (by omega) hn
    rw [add_plain] at this; rw [ho, hm]; exact this
theorem acct_cell {W : World} {base g n c : Nat} {ok : Nat → Prop} {l : List S46} (h : Kd.R k46 46 W base ok (.slice (some ⟨g, 0, none⟩) n c) l) (acct : Int) (h0 : 0 < acct) (h1 : acct ≤ 3 * (n : Int)) :
    W.cell? ⟨g, offOf acct, none⟩ = some (.int .i64 (fieldOf (rd_T46 l ((acct - 1) / 3)) ((acct - 1) % 3))) ∧ W.frozen? ⟨g, offOf acct, none⟩ = false := by
  obtain ⟨cs, hcl, hM, hc, hf⟩ := Kd.R_elem h z46 ((acct - 1) / 3) (by omega) (by omega)
  have hcs := k46_openM hM
  have hm : (acct - 1) % 3 = 0 ∨ (acct - 1) % 3 = 1 ∨ (acct - 1) % 3 = 2 := by omega
  have hsz : k46.sz = 6 := rfl
  rw [hsz] at hc hf
  have e : ∀ m, offOf acct = ((acct - 1) / 3).toNat * 6 + (3 + m) ↔ ((acct - 1) % 3).toNat = m := by intro m; unfold offOf; omega
  rcases hm with hm | hm | hm
  · have e0 := (e 0).2 (by rw [hm]; rfl)
    rw [e0, hm]; exact ⟨hc 3 _ (by rw [hcs]; rfl), hf 3⟩
  · have e0 := (e 1).2 (by rw [hm]; rfl)
    rw [e0, hm]; exact ⟨hc 4 _ (by rw [hcs]; rfl), hf 4⟩
  · have e0 := (e 2).2 (by rw [hm]; rfl)
    rw [e0, hm]; exact ⟨hc 5 _ (by rw [hcs]; rfl), hf 5⟩
theorem acct_store {W : World} {base g n c : Nat} {ok : Nat → Prop} {l : List S46} (h : Kd.R k46 46 W base ok (.slice (some ⟨g, 0, none⟩) n c) l) (acct : Int) (h0 : 0 < acct) (h1 : acct ≤ 3 * (n : Int)) (v : Int) :
    Kd.R k46 46 (W.setCell ⟨g, offOf acct, none⟩ (.int .i64 v)) base ok (.slice (some ⟨g, 0, none⟩) n c) (setAcct l acct v) ∧ W.grownBy (W.setCell ⟨g, offOf acct, none⟩ (.int .i64 v)) (some g) := by
  obtain ⟨cs, hcl, hM, hc, hf⟩ := Kd.R_elem h z46 ((acct - 1) / 3) (by omega) (by omega)
  have hcs := k46_openM hM
  have hm : (acct - 1) % 3 = 0 ∨ (acct - 1) % 3 = 1 ∨ (acct - 1) % 3 = 2 := by omega
  have e : ∀ m, offOf acct = ((acct - 1) / 3).toNat * k46.sz + (3 + m) ↔ ((acct - 1) % 3).toNat = m := by intro m; have hsz : k46.sz = 6 := rfl; rw [hsz]; unfold offOf; omega
  have key : ∀ (m : Nat) (x' : S46), ((acct - 1) % 3).toNat = m → m < 3 → (cs.take (3 + m) ++ [.int .i64 v] ++ cs.drop (3 + m + 1) = [.int .i64 x'.f0, .int .i64 x'.f1, .int .i64 x'.f2, .int .i64 x'.f3, .int .i64 x'.f4, .int .i64 x'.f5]) →
      Kd.R k46 46 (W.setCell ⟨g, offOf acct, none⟩ (.int .i64 v)) base ok (.slice (some ⟨g, 0, none⟩) n c) (l.set ((acct - 1) / 3).toNat x') ∧ W.grownBy (W.setCell ⟨g, offOf acct, none⟩ (.int .i64 v)) (some g) := by
    intro m x' hm2 hlt heq
    have := Kd.R_seg h ((acct - 1) / 3) (by omega) (by omega) hcl hc (seg := [.int .i64 v]) (j := 3 + m) (by have hsz : k46.sz = 6 := rfl; rw [hsz]; simp; omega) (x' := x') (okp := fun k => ok k ∧ k ≠ g) (by
      show k46.M W base _ x' (cs.take (3 + m) ++ [.int .i64 v] ++ cs.drop (3 + m + 1))
      rw [heq]; exact k46_mkM _ _ _ x') (fun k hk => hk)
    rw [(e m).2 hm2]
    simpa [World.setCells] using this
  unfold setAcct withField
  rcases hm with hm | hm | hm
  · rw [hm]; exact key 0 _ (by rw [hm]; rfl) (by omega) (by rw [hcs]; rfl)
  · rw [hm]; exact key 1 _ (by rw [hm]; rfl) (by omega) (by rw [hcs]; rfl)
  · rw [hm]; exact key 2 _ (by rw [hm]; rfl) (by omega) (by rw [hcs]; rfl)
theorem lit_two (W : World) (x : Int) (A : Option Addr) (n c : Nat) :
    let W2 := (W.alloc (.cells #[.int .i64 x] 3 (0, 0))).alloc (.cells #[.slice (some ⟨W.heap.size, 0, none⟩) 1 1, .slice A n c] 43 (0, 0))
    W.heap.size + 1 < W2.heap.size ∧ W2.cell? ⟨W.heap.size + 1, 0, none⟩ = some (.slice (some ⟨W.heap.size, 0, none⟩) 1 1) ∧ W2.cell? ⟨W.heap.size + 1, 1, none⟩ = some (.slice A n c) ∧ Kd.C (Kd.int .i64) W2 (some ⟨W.heap.size, 0, none⟩) 1 [x] := by
  have b1 : (W.alloc (.cells #[.int .i64 x] 3 (0, 0))).heap[W.heap.size]? = some (.cells #[.int .i64 x] 3 (0, 0)) := heap_alloc_new W _
  have b1' := blk_alloc b1 (.cells #[.slice (some ⟨W.heap.size, 0, none⟩) 1 1, .slice A n c] 43 (0, 0))
  have b2 := heap_alloc_new (W.alloc (.cells #[.int .i64 x] 3 (0, 0))) (.cells #[.slice (some ⟨W.heap.size, 0, none⟩) 1 1, .slice A n c] 43 (0, 0))
  have hs : (W.alloc (.cells #[.int .i64 x] 3 (0, 0))).heap.size = W.heap.size + 1 := by simp
  rw [hs] at b2
  refine ⟨by simp, (blk_cell b2 0).trans rfl, (blk_cell b2 1).trans rfl, rfl, by omega, fun _ => ⟨_, rfl, ?_⟩⟩
  intro j p hp
  have hj : j = 0 := by
    rcases j with _ | j
    · rfl
    · simp at hp
  subst hj
  obtain rfl : x = p := by simpa using hp
  refine ⟨[.int .i64 x], rfl, rfl, ?_⟩
  intro i u hu
  have hi : i = 0 := by
    rcases i with _ | i
    · rfl
    · simp at hu
  subst hi
  obtain rfl : Value.int .i64 x = u := by simpa using hu
  simp [Addr.add, World.cell?, b1']
structure Led (w : World) (v : Value) (wd : Int) (out : List S46) (W : World) : Prop where
  row : Kd.R k46 46 W w.heap.size (fun k => k ≠ w.heap.size) v out
  box : W.heap[w.heap.size]? = some (.cells #[.int .i64 wd] 3 (0, 0))
  below : Below w.heap.size w W
theorem Led.go {w : World} {v : Value} {wd : Int} {out : List S46} {W W' : World} (h : Led w v wd out W) (hb : Below W.heap.size W W') : Led w v wd out W' :=
  ⟨Kd.R_below h.row hb, blk_below h.box hb, h.below.trans (hb.mono h.below.size)⟩
theorem Led.cell {w : World} {v : Value} {wd : Int} {out : List S46} {W : World} (h : Led w v wd out W) : W.cell? ⟨w.heap.size, 0, none⟩ = some (.int .i64 wd) ∧ W.frozen? ⟨w.heap.size, 0, none⟩ = false :=
  ⟨(blk_cell h.box 0).trans rfl, blk_frozen h.box 0⟩
theorem Led.put {w : World} {v : Value} {wd : Int} {out : List S46} {W : World} (h : Led w v wd out W) (s : Int) : Led w v s out (W.setCell ⟨w.heap.size, 0, none⟩ (.int .i64 s)) :=
  ⟨Kd.R_far h.row (fun k hk => hk) _, blk_put h.box 0 _ rfl, below_set h.below (Nat.le_refl _)⟩
theorem Led.set {w : World} {g n c : Nat} {wd : Int} {out : List S46} {W : World} (h : Led w (.slice (some ⟨g, 0, none⟩) n c) wd out W) (acct : Int) (h0 : 0 < acct) (h1 : acct ≤ 3 * (n : Int)) (s : Int) : Led w (.slice (some ⟨g, 0, none⟩) n c) wd (setAcct out acct s) (W.setCell ⟨g, offOf acct, none⟩ (.int .i64 s)) := by
  obtain ⟨hr, hg⟩ := acct_store h.row acct h0 h1 s
  have hne : g ≠ w.heap.size := h.row.1 g rfl
  exact ⟨hr, blk_far h.box (Ne.symm hne) _, below_set h.below (Kd.R_base h.row g rfl)⟩
theorem place_world0 (p : Option Addr) (A : Option Addr) (n c : Nat) (w : World) :
    Calls Try.prog 43 #[.pointer p, .slice A n c, .int .i64 0] w fun e w' => e = .returned (.pointer p) ∧ Below w.heap.size w w' :=
  (place_world p A n c w).mono fun e w' h => ⟨h.1, h.2 ▸ Below.refl _ _⟩
def ledger_Post.l0 : Nat → List S64 → Int → List S46 → Int → Option (Int × List S46 × Int)
  | 0, _, _, _, _ => none
  | k + 1, l2, wd, out, i => if i < 1 + 3 * (out.length : Int) then (if 0 ≤ i then ((ledger_amounts.f k l2 false i).bind fun t => if t.length = 0 then ledger_Post.l0 k l2 wd out (wrap64 (i + 1)) else if t.length < 1000 then ((money_Add.f k (acctOf wd out i :: t)).bind fun p => if p.2 = 0 then (if (0 < i ∧ p.1 < 0) ∨ (i = 0 ∧ 0 < p.1) then some (0, [], 7) else ledger_Post.l0 k l2 (if i = 0 then p.1 else wd) (if i = 0 then out else setAcct out i p.1) (wrap64 (i + 1))) else some (0, [], p.2)) else none) else none) else some (wd, out, 0)
def ledger_Post.f (k : Nat) (a0 : Int) (l1 : List S46) (l2 : List S64) : Option (Int × List S46 × Int) := if (l1.length : Int) < 1000000 then ((ledger_may.f k a0 l1 l2).bind fun e => if e = 0 then ledger_Post.l0 k l2 a0 l1 0 else some (0, [], e)) else none
theorem ledger_Post.mono_l : ∀ k y0 y1 y2 y3, LeO (ledger_Post.l0 k y0 y1 y2 y3) (ledger_Post.l0 (k + 1) y0 y1 y2 y3)
  | 0 => fun _ _ _ _ r h => by simp [ledger_Post.l0] at h
  | k + 1 => by
    have ih := ledger_Post.mono_l k
    · intro y0 y1 y2 y3
      unfold ledger_Post.l0
      repeat' first
      | (with_reducible exact ih _ _ _ _)
      | (with_reducible exact ledger_amounts.mono _ _ _ _)
      | (with_reducible exact money_Add.mono _ _)
      | (with_reducible exact LeO.refl _)
      | (with_reducible exact LeO.none _)
      | (with_reducible refine LeO.ite ?_ ?_)
      | (with_reducible refine LeO.bind ?_ (fun _ => ?_))
      | exact LeO.none _
      | refine LeO.ite ?_ ?_
      | exact LeO.refl _
theorem ledger_Post.mono : ∀ a0 a1 a2 k, LeO (ledger_Post.f k a0 a1 a2) (ledger_Post.f (k + 1) a0 a1 a2) := by
  intro a0 a1 a2 k
  unfold ledger_Post.f
  repeat' first
      | (with_reducible exact ledger_may.mono _ _ _ _)
      | (with_reducible exact ledger_Post.mono_l _ _ _ _ _)
      | (with_reducible exact LeO.refl _)
      | (with_reducible exact LeO.none _)
      | (with_reducible refine LeO.ite ?_ ?_)
      | (with_reducible refine LeO.bind ?_ (fun _ => ?_))
      | exact LeO.none _
      | refine LeO.ite ?_ ?_
      | exact LeO.refl _
set_option maxHeartbeats 8000000 in
set_option maxRecDepth 100000 in
theorem ledger_Post.calls (k : Nat) (a0 : Int) (A1 : Option Addr) (c1 : Nat) (l1 : List S46) (A2 : Option Addr) (c2 : Nat) (l2 : List S64) (r1 : Int) (r2 : List S46) (r3 : Int) (w : World) (hr1 : Kd.C k46 w A1 l1.length l1) (hc1 : l1.length ≤ c1) (hr2 : Kd.C k64 w A2 l2.length l2) (hc2 : l2.length ≤ c2) (h : ledger_Post.f k a0 l1 l2 = some (r1, r2, r3)) :
    Calls Try.prog 25 #[.int .i64 a0, .slice A1 l1.length c1, .slice A2 l2.length c2] w fun e w' => ∃ v1_ : Value, e = .returned (.tuple #[.int .i64 r1, v1_, .int .i64 r3]) ∧ Kd.V k46 46 w' w.heap.size (fun k_ => (w.heap.size ≤ k_)) v1_ r2 ∧ Below w.heap.size w w' := by
  have HR1 := Aside0.mk hr1
  have HC1 := Aside0.mk hc1
  have HR2 := Aside0.mk hr2
  have HC2 := Aside0.mk hc2
  unfold ledger_Post.f at h
  by_cases c0 : (l1.length : Int) < 1000000
  · rw [if_pos c0] at h
    obtain ⟨er, he, h⟩ := Option.bind_eq_some_iff.1 h
    have HE := Aside0.mk he
    have HF := Aside0.mk (clone_f l1 c0)
    have HN := Aside0.mk c0
    clear hr1 hc1 hr2 hc2 he c0
    by_cases c1e : er = 0
    · rw [if_pos c1e] at h
      subst c1e
      have H' := Aside0.mk h
      clear h
      go_enter Try.func25, Try.ntmps25
      go_wp2_with (first | (go_at_call 39; with_reducible refine (ledger_may.calls k a0 A1 c1 l1 A2 c2 l2 0 _ (Kd.C_below HR1.out (below_alloc (Below.refl _ _) _)) HC1.out (Kd.C_below HR2.out (below_alloc (Below.refl _ _) _)) HC2.out HE.out).mono ?_; rintro e w1 ⟨rfl, hb⟩; have hbx : w1.heap[w.heap.size]? = some (.cells #[.int .i64 a0] 3 (0, 0)) := blk_below (heap_alloc_new w _) hb; have BX := Aside0.mk hbx; have HB := Aside0.mk ((below_alloc (Below.refl w.heap.size w) _).trans (hb.mono (by simp))); clear hb hbx) | (go_at_call 41; (with_reducible refine (slices_Clone_Alloc.calls A1 c1 l1 l1 _ (Kd.C_below HR1.out HB.out) HC1.out HF.out).mono ?_; rintro e w2 ⟨v, rfl, ho, hb⟩; have hbx2 := blk_below BX.out hb; have HLED := Aside0.mk (show Led w v a0 l1 w2 from ⟨Kd.R_mono (Kd.R_types (Kd.R_lower ho HB.out.size) hbx2 (by decide)) (fun k hk => hk.2), hbx2, HB.out.trans (hb.mono HB.out.size)⟩); obtain ⟨A, c, rfl, hcc, hC⟩ := Kd.R_reads ho; have HCC := Aside0.mk hcc; clear ho hb hcc hC hbx2)) | (go_at_call 40; with_reducible refine (clip_at A l1.length c _ HCC.out).mono ?_; rintro e w3 ⟨rfl, rfl⟩; clear BX HB))
      have HLED2 := Aside0.mk (show ∃ c, Led w (.slice A l1.length c) a0 l1 _ from ⟨c, HLED.out⟩)
      clear HLED HCC
      go_loopg [30] k (fun kq v30 wc => ∃ (x30 : Int) (wd : Int) (out : List S46), v30 = .int .i64 x30 ∧ Aside0 (ledger_Post.l0 kq l2 wd out x30 = some (r1, r2, r3)) ∧ Aside0 (out.length = l1.length) ∧ Aside0 (∃ c, Led w (.slice A l1.length c) wd out wc))
      case atStart => exact ⟨0, a0, l1, rfl, H', ⟨rfl⟩, HLED2⟩
      case round =>
        clear H' HLED2
        obtain ⟨x30, wd, out, rfl, HH, HO, HLED0⟩ := hrel
        obtain ⟨cc, hled⟩ := HLED0.out
        have HLED := Aside0.mk hled
        clear HLED0 hled
        have E : Aside0 (wrap64 (1 + wrap64 (3 * (l1.length : Int))) = 1 + 3 * (l1.length : Int)) := ⟨by have := HN.out; unfold wrap64; omega⟩
        cases gk with
        | zero => exact absurd HH.out (by simp [ledger_Post.l0])
        | succ k1 =>
          have H := HH.out
          clear HH
          simp only [ledger_Post.l0] at H
          rw [show ((out.length : Nat) : Int) = (l1.length : Int) by rw [HO.out]] at H
          by_cases c3 : x30 < 1 + 3 * (l1.length : Int)
          · rw [if_pos c3] at H
            have c3b : decide (x30 < wrap64 (1 + wrap64 (3 * (l1.length : Int)))) = true := by rw [E.out]; exact decide_eq_true c3
            have c3c := Aside0.mk c3
            clear c3
            by_cases c4 : 0 ≤ x30
            · rw [if_pos c4] at H
              have c4c := Aside0.mk c4
              clear c4
              obtain ⟨t, ht, H⟩ := Option.bind_eq_some_iff.1 H
              have HT := Aside0.mk ht
              clear ht
              by_cases c5 : t.length = 0
              · rw [if_pos c5] at H
                have c5b : ((t.length : Int) == 0) = true := beq_iff_eq.mpr (by omega)
                have c5c : t = [] := List.length_eq_zero_iff.mp c5
                have H' := Aside0.mk H
                clear H c5
                subst c5c
                go_wp2_with (go_at_call 42; with_reducible refine (ledger_amounts.calls k1 _ c2 l2 false x30 [] _ (Kd.C_below HR2.out HLED.out.below) HC2.out HT.out).mono ?_; rintro e w1 ⟨v, rfl, ho, hb⟩; obtain ⟨A3, c3, rfl, hcc, hC⟩ := Kd.R_reads ho; have HL2 := Aside0.mk (HLED.out.go hb); clear ho hb hcc hC)
                go_roundg k1
                case measure => omega
                case rel => exact ⟨wrap64 (x30 + 1), wd, out, (by first | rfl | (simp; done)), H', HO, ⟨_, HL2.out⟩⟩
              · rw [if_neg c5] at H
                have c5b : ((t.length : Int) == 0) = false := beq_eq_false_iff_ne.mpr (by omega)
                have c5c : ¬ t = [] := fun e => c5 (by rw [e]; rfl)
                clear c5
                by_cases c6 : t.length < 1000
                · rw [if_pos c6] at H
                  have HTL := Aside0.mk c6
                  clear c6
                  obtain ⟨⟨s, er⟩, hs, H⟩ := Option.bind_eq_some_iff.1 H
                  have HS := Aside0.mk hs
                  clear hs
                  by_cases z : x30 = 0
                  · subst z
                    have HX0 : acctOf wd out 0 = wd := rfl
                    rw [HX0] at HS
                    obtain ⟨xt, hx⟩ : ∃ y, y = wd :: t := ⟨_, rfl⟩
                    rw [← hx] at HS
                    have HX := Aside0.mk hx
                    clear hx HX0
                    by_cases d1 : er = 0
                    · simp only [d1, if_true] at H
                      have d1b : (er != 0) = false := by simp [d1]
                      by_cases d2 : 0 < s
                      · have d2b : decide (0 < s) = true := decide_eq_true d2
                        obtain ⟨rfl, rfl, rfl⟩ : 0 = r1 ∧ [] = r2 ∧ 7 = r3 := by simpa [d2] using H
                        clear H d2 d1
                        go_wp2_with (first | (go_at_call 42; with_reducible refine (ledger_amounts.calls k1 _ c2 l2 false 0 t _ (Kd.C_below HR2.out HLED.out.below) HC2.out HT.out).mono ?_; rintro e w1 ⟨v, rfl, ho, hb⟩; obtain ⟨A3, c3, rfl, hcc, hC⟩ := Kd.R_reads ho; have HC3 := Aside0.mk hC; have hl := HLED.out.go hb; clear HLED; have HLED := Aside0.mk hl; clear ho hb hcc hC hl; obtain ⟨q1, q2⟩ := HLED.out.cell) | (go_at_call 43; with_reducible refine (place_world0 _ _ _ _ _).mono ?_; rintro e w2 ⟨rfl, hb⟩; have hl := HLED.out.go hb; have hc := Kd.C_below HC3.out hb; clear HLED HC3 q1 q2; have HLED := Aside0.mk hl; have HC3 := Aside0.mk hc; clear hb hl hc; obtain ⟨q1, q2⟩ := HLED.out.cell) | (go_at_call 44; with_reducible refine (concat_two _ _ _ wd A3 c3 t _ (lit_two _ wd A3 t.length c3).1 (lit_two _ wd A3 t.length c3).2.1 (lit_two _ wd A3 t.length c3).2.2.1 (lit_two _ wd A3 t.length c3).2.2.2 (Kd.C_below HC3.out (below_alloc (below_alloc (Below.refl _ _) _) _)) HTL.out).mono ?_; rintro e w3 ⟨v, rfl, ho, hb⟩; rw [← HX.out] at ho; obtain ⟨A4, c4, rfl, hcc, hC⟩ := Kd.R_reads ho; have HC4 := Aside0.mk hC; have HCC4 := Aside0.mk hcc; have hl := HLED.out.go ((below_alloc (below_alloc (Below.refl _ _) _) _).trans (hb.mono (by simp; omega))); clear HLED q1 q2; have HLED := Aside0.mk hl; clear ho hb hcc hC hl; obtain ⟨q1, q2⟩ := HLED.out.cell) | (go_at_call 37; with_reducible refine (money_Add.calls k1 _ _ xt s er _ HC4.out HCC4.out HS.out).mono ?_; rintro e w4 ⟨rfl, hd⟩; have hl := HLED.out.go hd.below; clear HLED q1 q2; have HLED := Aside0.mk hl; clear hd hl; obtain ⟨q1, q2⟩ := HLED.out.cell))
                        go_ret3
                        exact ⟨_, rfl, Kd.V_nil _ _ _ _ _, HLED.out.below⟩
                      · have d2b : decide (0 < s) = false := decide_eq_false d2
                        have H3 : ledger_Post.l0 k1 l2 s out 1 = some (r1, r2, r3) := by rw [show wrap64 ((0 : Int) + 1) = 1 by unfold wrap64; omega] at H; simpa [d2] using H
                        have H' := Aside0.mk H3
                        clear H H3 d2 d1
                        go_wp2_with (first | (go_at_call 42; with_reducible refine (ledger_amounts.calls k1 _ c2 l2 false 0 t _ (Kd.C_below HR2.out HLED.out.below) HC2.out HT.out).mono ?_; rintro e w1 ⟨v, rfl, ho, hb⟩; obtain ⟨A3, c3, rfl, hcc, hC⟩ := Kd.R_reads ho; have HC3 := Aside0.mk hC; have hl := HLED.out.go hb; clear HLED; have HLED := Aside0.mk hl; clear ho hb hcc hC hl; obtain ⟨q1, q2⟩ := HLED.out.cell) | (go_at_call 43; with_reducible refine (place_world0 _ _ _ _ _).mono ?_; rintro e w2 ⟨rfl, hb⟩; have hl := HLED.out.go hb; have hc := Kd.C_below HC3.out hb; clear HLED HC3 q1 q2; have HLED := Aside0.mk hl; have HC3 := Aside0.mk hc; clear hb hl hc; obtain ⟨q1, q2⟩ := HLED.out.cell) | (go_at_call 44; with_reducible refine (concat_two _ _ _ wd A3 c3 t _ (lit_two _ wd A3 t.length c3).1 (lit_two _ wd A3 t.length c3).2.1 (lit_two _ wd A3 t.length c3).2.2.1 (lit_two _ wd A3 t.length c3).2.2.2 (Kd.C_below HC3.out (below_alloc (below_alloc (Below.refl _ _) _) _)) HTL.out).mono ?_; rintro e w3 ⟨v, rfl, ho, hb⟩; rw [← HX.out] at ho; obtain ⟨A4, c4, rfl, hcc, hC⟩ := Kd.R_reads ho; have HC4 := Aside0.mk hC; have HCC4 := Aside0.mk hcc; have hl := HLED.out.go ((below_alloc (below_alloc (Below.refl _ _) _) _).trans (hb.mono (by simp; omega))); clear HLED q1 q2; have HLED := Aside0.mk hl; clear ho hb hcc hC hl; obtain ⟨q1, q2⟩ := HLED.out.cell) | (go_at_call 37; with_reducible refine (money_Add.calls k1 _ _ xt s er _ HC4.out HCC4.out HS.out).mono ?_; rintro e w4 ⟨rfl, hd⟩; have hl := HLED.out.go hd.below; clear HLED q1 q2; have HLED := Aside0.mk hl; clear hd hl; obtain ⟨q1, q2⟩ := HLED.out.cell))
                        go_roundg k1
                        case measure => omega
                        case rel => exact ⟨1, s, out, (by first | rfl | (simp; done)), H', HO, ⟨_, HLED.out.put s⟩⟩
                    · simp only [d1, if_false] at H
                      have d1b : (er != 0) = true := by simp [d1]
                      obtain ⟨rfl, rfl, rfl⟩ : 0 = r1 ∧ [] = r2 ∧ er = r3 := by simpa using H
                      clear H d1
                      go_wp2_with (first | (go_at_call 42; with_reducible refine (ledger_amounts.calls k1 _ c2 l2 false 0 t _ (Kd.C_below HR2.out HLED.out.below) HC2.out HT.out).mono ?_; rintro e w1 ⟨v, rfl, ho, hb⟩; obtain ⟨A3, c3, rfl, hcc, hC⟩ := Kd.R_reads ho; have HC3 := Aside0.mk hC; have hl := HLED.out.go hb; clear HLED; have HLED := Aside0.mk hl; clear ho hb hcc hC hl; obtain ⟨q1, q2⟩ := HLED.out.cell) | (go_at_call 43; with_reducible refine (place_world0 _ _ _ _ _).mono ?_; rintro e w2 ⟨rfl, hb⟩; have hl := HLED.out.go hb; have hc := Kd.C_below HC3.out hb; clear HLED HC3 q1 q2; have HLED := Aside0.mk hl; have HC3 := Aside0.mk hc; clear hb hl hc; obtain ⟨q1, q2⟩ := HLED.out.cell) | (go_at_call 44; with_reducible refine (concat_two _ _ _ wd A3 c3 t _ (lit_two _ wd A3 t.length c3).1 (lit_two _ wd A3 t.length c3).2.1 (lit_two _ wd A3 t.length c3).2.2.1 (lit_two _ wd A3 t.length c3).2.2.2 (Kd.C_below HC3.out (below_alloc (below_alloc (Below.refl _ _) _) _)) HTL.out).mono ?_; rintro e w3 ⟨v, rfl, ho, hb⟩; rw [← HX.out] at ho; obtain ⟨A4, c4, rfl, hcc, hC⟩ := Kd.R_reads ho; have HC4 := Aside0.mk hC; have HCC4 := Aside0.mk hcc; have hl := HLED.out.go ((below_alloc (below_alloc (Below.refl _ _) _) _).trans (hb.mono (by simp; omega))); clear HLED q1 q2; have HLED := Aside0.mk hl; clear ho hb hcc hC hl; obtain ⟨q1, q2⟩ := HLED.out.cell) | (go_at_call 37; with_reducible refine (money_Add.calls k1 _ _ xt s er _ HC4.out HCC4.out HS.out).mono ?_; rintro e w4 ⟨rfl, hd⟩; have hl := HLED.out.go hd.below; clear HLED q1 q2; have HLED := Aside0.mk hl; clear hd hl; obtain ⟨q1, q2⟩ := HLED.out.cell))
                      go_ret3
                      exact ⟨_, rfl, Kd.V_nil _ _ _ _ _, HLED.out.below⟩
                  · have ZN := Aside0.mk z
                    have HX0 : acctOf wd out x30 = fieldOf (rd_T46 out ((x30 - 1) / 3)) ((x30 - 1) % 3) := by unfold acctOf; rw [if_neg z]
                    rw [HX0] at HS
                    obtain ⟨xt, hx⟩ : ∃ y, y = fieldOf (rd_T46 out ((x30 - 1) / 3)) ((x30 - 1) % 3) :: t := ⟨_, rfl⟩
                    rw [← hx] at HS
                    have HX := Aside0.mk hx
                    have z1 : (x30 == 0) = false := beq_eq_false_iff_ne.mpr z
                    have z2 : decide (0 < x30) = true := decide_eq_true (by have := c4c.out; omega)
                    clear hx HX0 z
                    obtain ⟨g, cap, hv, _, _, _, _⟩ := Kd.R_form HLED.out.row (by have := c3c.out; have := c4c.out; have := ZN.out; rw [HO.out]; omega)
                    have hA : A = some ⟨g, 0, none⟩ := by injection hv
                    clear hv
                    subst hA
                    by_cases d1 : er = 0
                    · simp only [d1, if_true] at H
                      have d1b : (er != 0) = false := by simp [d1]
                      by_cases d2 : s < 0
                      · have d2b : decide (s < 0) = true := decide_eq_true d2
                        obtain ⟨rfl, rfl, rfl⟩ : 0 = r1 ∧ [] = r2 ∧ 7 = r3 := by rw [if_pos (Or.inl ⟨by have := c4c.out; have := ZN.out; omega, d2⟩)] at H; simpa using H
                        clear H d2 d1
                        go_wp2_with (first | (go_at_call 42; with_reducible refine (ledger_amounts.calls k1 _ c2 l2 false x30 t _ (Kd.C_below HR2.out HLED.out.below) HC2.out HT.out).mono ?_; rintro e w1 ⟨v, rfl, ho, hb⟩; obtain ⟨A3, c3, rfl, hcc, hC⟩ := Kd.R_reads ho; have HC3 := Aside0.mk hC; have hl := HLED.out.go hb; clear HLED; have HLED := Aside0.mk hl; clear ho hb hcc hC hl; obtain ⟨q1, q2⟩ := acct_cell HLED.out.row x30 (by have := c4c.out; have := ZN.out; omega) (by have := c3c.out; omega)) | (go_at_call 43; with_reducible refine (place_in _ g l1.length l1.length x30 _ (by have := c4c.out; have := ZN.out; omega) (by have := c3c.out; omega) (by have := HN.out; omega)).mono ?_; rintro e w2 ⟨rfl, hb⟩; have hl := HLED.out.go hb; have hc := Kd.C_below HC3.out hb; clear HLED HC3 q1 q2; have HLED := Aside0.mk hl; have HC3 := Aside0.mk hc; clear hb hl hc; obtain ⟨q1, q2⟩ := acct_cell HLED.out.row x30 (by have := c4c.out; have := ZN.out; omega) (by have := c3c.out; omega)) | (go_at_call 44; with_reducible refine (concat_two _ _ _ (fieldOf (rd_T46 out ((x30 - 1) / 3)) ((x30 - 1) % 3)) A3 c3 t _ (lit_two _ (fieldOf (rd_T46 out ((x30 - 1) / 3)) ((x30 - 1) % 3)) A3 t.length c3).1 (lit_two _ (fieldOf (rd_T46 out ((x30 - 1) / 3)) ((x30 - 1) % 3)) A3 t.length c3).2.1 (lit_two _ (fieldOf (rd_T46 out ((x30 - 1) / 3)) ((x30 - 1) % 3)) A3 t.length c3).2.2.1 (lit_two _ (fieldOf (rd_T46 out ((x30 - 1) / 3)) ((x30 - 1) % 3)) A3 t.length c3).2.2.2 (Kd.C_below HC3.out (below_alloc (below_alloc (Below.refl _ _) _) _)) HTL.out).mono ?_; rintro e w3 ⟨v, rfl, ho, hb⟩; rw [← HX.out] at ho; obtain ⟨A4, c4, rfl, hcc, hC⟩ := Kd.R_reads ho; have HC4 := Aside0.mk hC; have HCC4 := Aside0.mk hcc; have hl := HLED.out.go ((below_alloc (below_alloc (Below.refl _ _) _) _).trans (hb.mono (by simp; omega))); clear HLED q1 q2; have HLED := Aside0.mk hl; clear ho hb hcc hC hl; obtain ⟨q1, q2⟩ := acct_cell HLED.out.row x30 (by have := c4c.out; have := ZN.out; omega) (by have := c3c.out; omega)) | (go_at_call 37; with_reducible refine (money_Add.calls k1 _ _ xt s er _ HC4.out HCC4.out HS.out).mono ?_; rintro e w4 ⟨rfl, hd⟩; have hl := HLED.out.go hd.below; clear HLED q1 q2; have HLED := Aside0.mk hl; clear hd hl; obtain ⟨q1, q2⟩ := acct_cell HLED.out.row x30 (by have := c4c.out; have := ZN.out; omega) (by have := c3c.out; omega)))
                        go_ret3
                        exact ⟨_, rfl, Kd.V_nil _ _ _ _ _, HLED.out.below⟩
                      · have d2b : decide (s < 0) = false := decide_eq_false d2
                        have H3 : ledger_Post.l0 k1 l2 wd (setAcct out x30 s) (wrap64 (x30 + 1)) = some (r1, r2, r3) := by rw [if_neg (by rintro (q | q); exact d2 q.2; exact ZN.out q.1), if_neg ZN.out, if_neg ZN.out] at H; exact H
                        have H' := Aside0.mk H3
                        clear H H3 d2 d1
                        go_wp2_with (first | (go_at_call 42; with_reducible refine (ledger_amounts.calls k1 _ c2 l2 false x30 t _ (Kd.C_below HR2.out HLED.out.below) HC2.out HT.out).mono ?_; rintro e w1 ⟨v, rfl, ho, hb⟩; obtain ⟨A3, c3, rfl, hcc, hC⟩ := Kd.R_reads ho; have HC3 := Aside0.mk hC; have hl := HLED.out.go hb; clear HLED; have HLED := Aside0.mk hl; clear ho hb hcc hC hl; obtain ⟨q1, q2⟩ := acct_cell HLED.out.row x30 (by have := c4c.out; have := ZN.out; omega) (by have := c3c.out; omega)) | (go_at_call 43; with_reducible refine (place_in _ g l1.length l1.length x30 _ (by have := c4c.out; have := ZN.out; omega) (by have := c3c.out; omega) (by have := HN.out; omega)).mono ?_; rintro e w2 ⟨rfl, hb⟩; have hl := HLED.out.go hb; have hc := Kd.C_below HC3.out hb; clear HLED HC3 q1 q2; have HLED := Aside0.mk hl; have HC3 := Aside0.mk hc; clear hb hl hc; obtain ⟨q1, q2⟩ := acct_cell HLED.out.row x30 (by have := c4c.out; have := ZN.out; omega) (by have := c3c.out; omega)) | (go_at_call 44; with_reducible refine (concat_two _ _ _ (fieldOf (rd_T46 out ((x30 - 1) / 3)) ((x30 - 1) % 3)) A3 c3 t _ (lit_two _ (fieldOf (rd_T46 out ((x30 - 1) / 3)) ((x30 - 1) % 3)) A3 t.length c3).1 (lit_two _ (fieldOf (rd_T46 out ((x30 - 1) / 3)) ((x30 - 1) % 3)) A3 t.length c3).2.1 (lit_two _ (fieldOf (rd_T46 out ((x30 - 1) / 3)) ((x30 - 1) % 3)) A3 t.length c3).2.2.1 (lit_two _ (fieldOf (rd_T46 out ((x30 - 1) / 3)) ((x30 - 1) % 3)) A3 t.length c3).2.2.2 (Kd.C_below HC3.out (below_alloc (below_alloc (Below.refl _ _) _) _)) HTL.out).mono ?_; rintro e w3 ⟨v, rfl, ho, hb⟩; rw [← HX.out] at ho; obtain ⟨A4, c4, rfl, hcc, hC⟩ := Kd.R_reads ho; have HC4 := Aside0.mk hC; have HCC4 := Aside0.mk hcc; have hl := HLED.out.go ((below_alloc (below_alloc (Below.refl _ _) _) _).trans (hb.mono (by simp; omega))); clear HLED q1 q2; have HLED := Aside0.mk hl; clear ho hb hcc hC hl; obtain ⟨q1, q2⟩ := acct_cell HLED.out.row x30 (by have := c4c.out; have := ZN.out; omega) (by have := c3c.out; omega)) | (go_at_call 37; with_reducible refine (money_Add.calls k1 _ _ xt s er _ HC4.out HCC4.out HS.out).mono ?_; rintro e w4 ⟨rfl, hd⟩; have hl := HLED.out.go hd.below; clear HLED q1 q2; have HLED := Aside0.mk hl; clear hd hl; obtain ⟨q1, q2⟩ := acct_cell HLED.out.row x30 (by have := c4c.out; have := ZN.out; omega) (by have := c3c.out; omega)))
                        go_roundg k1
                        case measure => omega
                        case rel => exact ⟨wrap64 (x30 + 1), wd, setAcct out x30 s, (by first | rfl | (simp; done)), H', ⟨by unfold setAcct; rw [List.length_set]; exact HO.out⟩, ⟨_, HLED.out.set x30 (by have := c4c.out; have := ZN.out; omega) (by have := c3c.out; omega) s⟩⟩
                    · simp only [d1, if_false] at H
                      have d1b : (er != 0) = true := by simp [d1]
                      obtain ⟨rfl, rfl, rfl⟩ : 0 = r1 ∧ [] = r2 ∧ er = r3 := by simpa using H
                      clear H d1
                      go_wp2_with (first | (go_at_call 42; with_reducible refine (ledger_amounts.calls k1 _ c2 l2 false x30 t _ (Kd.C_below HR2.out HLED.out.below) HC2.out HT.out).mono ?_; rintro e w1 ⟨v, rfl, ho, hb⟩; obtain ⟨A3, c3, rfl, hcc, hC⟩ := Kd.R_reads ho; have HC3 := Aside0.mk hC; have hl := HLED.out.go hb; clear HLED; have HLED := Aside0.mk hl; clear ho hb hcc hC hl; obtain ⟨q1, q2⟩ := acct_cell HLED.out.row x30 (by have := c4c.out; have := ZN.out; omega) (by have := c3c.out; omega)) | (go_at_call 43; with_reducible refine (place_in _ g l1.length l1.length x30 _ (by have := c4c.out; have := ZN.out; omega) (by have := c3c.out; omega) (by have := HN.out; omega)).mono ?_; rintro e w2 ⟨rfl, hb⟩; have hl := HLED.out.go hb; have hc := Kd.C_below HC3.out hb; clear HLED HC3 q1 q2; have HLED := Aside0.mk hl; have HC3 := Aside0.mk hc; clear hb hl hc; obtain ⟨q1, q2⟩ := acct_cell HLED.out.row x30 (by have := c4c.out; have := ZN.out; omega) (by have := c3c.out; omega)) | (go_at_call 44; with_reducible refine (concat_two _ _ _ (fieldOf (rd_T46 out ((x30 - 1) / 3)) ((x30 - 1) % 3)) A3 c3 t _ (lit_two _ (fieldOf (rd_T46 out ((x30 - 1) / 3)) ((x30 - 1) % 3)) A3 t.length c3).1 (lit_two _ (fieldOf (rd_T46 out ((x30 - 1) / 3)) ((x30 - 1) % 3)) A3 t.length c3).2.1 (lit_two _ (fieldOf (rd_T46 out ((x30 - 1) / 3)) ((x30 - 1) % 3)) A3 t.length c3).2.2.1 (lit_two _ (fieldOf (rd_T46 out ((x30 - 1) / 3)) ((x30 - 1) % 3)) A3 t.length c3).2.2.2 (Kd.C_below HC3.out (below_alloc (below_alloc (Below.refl _ _) _) _)) HTL.out).mono ?_; rintro e w3 ⟨v, rfl, ho, hb⟩; rw [← HX.out] at ho; obtain ⟨A4, c4, rfl, hcc, hC⟩ := Kd.R_reads ho; have HC4 := Aside0.mk hC; have HCC4 := Aside0.mk hcc; have hl := HLED.out.go ((below_alloc (below_alloc (Below.refl _ _) _) _).trans (hb.mono (by simp; omega))); clear HLED q1 q2; have HLED := Aside0.mk hl; clear ho hb hcc hC hl; obtain ⟨q1, q2⟩ := acct_cell HLED.out.row x30 (by have := c4c.out; have := ZN.out; omega) (by have := c3c.out; omega)) | (go_at_call 37; with_reducible refine (money_Add.calls k1 _ _ xt s er _ HC4.out HCC4.out HS.out).mono ?_; rintro e w4 ⟨rfl, hd⟩; have hl := HLED.out.go hd.below; clear HLED q1 q2; have HLED := Aside0.mk hl; clear hd hl; obtain ⟨q1, q2⟩ := acct_cell HLED.out.row x30 (by have := c4c.out; have := ZN.out; omega) (by have := c3c.out; omega)))
                      go_ret3
                      exact ⟨_, rfl, Kd.V_nil _ _ _ _ _, HLED.out.below⟩
                · rw [if_neg c6] at H; simp at H
            · rw [if_neg c4] at H; simp at H
          · rw [if_neg c3] at H
            obtain ⟨rfl, rfl, rfl⟩ : wd = r1 ∧ out = r2 ∧ 0 = r3 := by simpa using H
            have c3b : decide (x30 < wrap64 (1 + wrap64 (3 * (l1.length : Int)))) = false := by rw [E.out]; exact decide_eq_false c3
            obtain ⟨q1, q2⟩ := HLED.out.cell
            have HV := Aside0.mk (show Kd.V k46 46 wr w.heap.size (fun k_ => (w.heap.size ≤ k_)) (.slice A l1.length l1.length) out from by
              have h1 := Kd.R_F (Kd.R_mono (Kd.R_bound HLED.out.row) (fun k hk => hk.2.1))
              rw [← HO.out] at h1 ⊢
              exact Kd.V_mk (Nat.le_refl _) h1)
            clear c3 H
            go_wp2
            go_ret3
            exact ⟨_, rfl, HV.out, HLED.out.below⟩
    · rw [if_neg c1e] at h
      obtain ⟨rfl, rfl, rfl⟩ : 0 = r1 ∧ [] = r2 ∧ er = r3 := by simpa using h
      have c1b : (er != 0) = true := by simp [c1e]
      clear h c1e
      go_enter Try.func25, Try.ntmps25
      go_wp2_with (go_at_call 39; with_reducible refine (ledger_may.calls k a0 A1 c1 l1 A2 c2 l2 er _ (Kd.C_below HR1.out (below_alloc (Below.refl _ _) _)) HC1.out (Kd.C_below HR2.out (below_alloc (Below.refl _ _) _)) HC2.out HE.out).mono ?_; rintro e w1 ⟨rfl, hb⟩; have HB := Aside0.mk ((below_alloc (Below.refl w.heap.size w) _).trans (hb.mono (by simp))); clear hb)
      go_ret3
      exact ⟨_, rfl, Kd.V_nil _ _ _ _ _, HB.out⟩
  · rw [if_neg c0] at h; simp at h
end Go.Proofs.Ytlccomoiajnkmaa.PAll
end
section
namespace Go.Proofs.Ytlccomoiajnkmaa.PAll
open Go.RowKit Go.Proofs.YtlccomoiajnkmaaW.PrintWords Go.Proofs.YtlccomoiajnkmaaW.PrintLast Go.Proofs.YtlccomoiajnkmaaW.PrintMore
attribute [local go_sem] max2_int min2_int max_two min_two max_three min_three max_four min_four   -- for this text's walks alone
set_option linter.unusedVariables false
set_option linter.unusedSimpArgs false

theorem eqA46 (d : Nat) (w : World) (x0 y0 : Int) (x1 y1 : Int) (x2 y2 : Int) (x3 y3 : Int) (x4 y4 : Int) (x5 y5 : Int) :
    (Op.equalIn (d + 2) 46 (.agg #[.int .i64 x0, .int .i64 x1, .int .i64 x2, .int .i64 x3, .int .i64 x4, .int .i64 x5]) (.agg #[.int .i64 y0, .int .i64 y1, .int .i64 y2, .int .i64 y3, .int .i64 y4, .int .i64 y5])).run Try.prog w = .ok (x0 == y0 && (x1 == y1 && (x2 == y2 && (x3 == y3 && (x4 == y4 && (x5 == y5)))))) w := by
  refine eqA_of Try.underlying46 (by kernel_rfl) ?_
  refine eqf_cons (by rfl) (by go_simp; rfl) (by go_simp; rfl) (by go_simp) ?_
  refine eqf_cons (by rfl) (by go_simp; rfl) (by go_simp; rfl) (by go_simp) ?_
  refine eqf_cons (by rfl) (by go_simp; rfl) (by go_simp; rfl) (by go_simp) ?_
  refine eqf_cons (by rfl) (by go_simp; rfl) (by go_simp; rfl) (by go_simp) ?_
  refine eqf_cons (by rfl) (by go_simp; rfl) (by go_simp; rfl) (by go_simp) ?_
  exact eqf_last (by rfl) (by go_simp; rfl) (by go_simp; rfl) (by go_simp)
end Go.Proofs.Ytlccomoiajnkmaa.PAll
end
section
namespace Go.Proofs.Ytlccomoiajnkmaa.PAll
open Go.RowKit Go.Proofs.YtlccomoiajnkmaaW.PrintWords Go.Proofs.YtlccomoiajnkmaaW.PrintLast Go.Proofs.YtlccomoiajnkmaaW.PrintMore
attribute [local go_sem] max2_int min2_int max_two min_two max_three min_three max_four min_four   -- for this text's walks alone
set_option linter.unusedVariables false
set_option linter.unusedSimpArgs false

attribute [local go_sem high] eqA46
def prebendref09_Same.l0 : Nat → List (S46) → List (S46) → Int → Option (Bool)
  | 0, _, _, _ => none
  | k + 1, x0, x1, x5 => if x5 < (x0.length : Int) then (if 0 ≤ x5 then (if x5 < (x1.length : Int) then (if (!(((rd_T46 x0 x5).f0) == ((rd_T46 x1 x5).f0)) || (!(((rd_T46 x0 x5).f1) == ((rd_T46 x1 x5).f1)) || (!(((rd_T46 x0 x5).f2) == ((rd_T46 x1 x5).f2)) || (!(((rd_T46 x0 x5).f3) == ((rd_T46 x1 x5).f3)) || (!(((rd_T46 x0 x5).f4) == ((rd_T46 x1 x5).f4)) || (!(((rd_T46 x0 x5).f5) == ((rd_T46 x1 x5).f5)))))))) = true then (some false) else (prebendref09_Same.l0 k x0 x1 (wrap64 (x5 + 1)))) else (none)) else (none)) else (some true)
def prebendref09_Same.f (k : Nat) (l0 : List (S46)) (l1 : List (S46)) : Option (Bool) := if (l0.length : Int) = (l1.length : Int) then (prebendref09_Same.l0 k l0 l1 0) else (some false)
theorem prebendref09_Same.mono_l : ∀ k, (∀ y0 y1 y2, LeO (prebendref09_Same.l0 k y0 y1 y2) (prebendref09_Same.l0 (k + 1) y0 y1 y2))
  | 0 => fun _ _ _ r h => by simp [prebendref09_Same.l0] at h
  | k + 1 => by
    have ih0 := prebendref09_Same.mono_l k
    · intro y0 y1 y2
      unfold prebendref09_Same.l0
      repeat' first
      | (with_reducible exact ih0 _ _ _)
      | (with_reducible exact LeO.refl _)
      | (with_reducible exact LeO.none _)
      | (with_reducible refine LeO.ite ?_ ?_)
      | (with_reducible refine LeO.bind ?_ (fun _ => ?_))
      | exact ih0 _ _ _
      | exact LeO.none _
      | refine LeO.ite ?_ ?_
      | refine LeO.bind ?_ (fun _ => ?_)
theorem prebendref09_Same.mono : ∀ a0 a1 k, LeO (prebendref09_Same.f k a0 a1) (prebendref09_Same.f (k + 1) a0 a1) := by
  intro a0 a1 k
  have ih0 := prebendref09_Same.mono_l k
  unfold prebendref09_Same.f
  repeat' first
      | (with_reducible exact ih0 _ _ _)
      | (with_reducible exact LeO.refl _)
      | (with_reducible exact LeO.none _)
      | (with_reducible refine LeO.ite ?_ ?_)
      | (with_reducible refine LeO.bind ?_ (fun _ => ?_))
      | exact ih0 _ _ _
      | exact LeO.none _
      | refine LeO.ite ?_ ?_
      | refine LeO.bind ?_ (fun _ => ?_)
set_option maxHeartbeats 8000000 in
set_option maxRecDepth 100000 in
theorem prebendref09_Same.calls (k : Nat) (A0 : Option Addr) (c0 : Nat) (l0 : List (S46)) (A1 : Option Addr) (c1 : Nat) (l1 : List (S46)) (r : Bool) (w : World) (hr0 : Kd.C k46 w A0 l0.length l0) (hc0 : l0.length ≤ c0) (hr1 : Kd.C k46 w A1 l1.length l1) (hc1 : l1.length ≤ c1) (h : prebendref09_Same.f k l0 l1 = some r) :
    Calls Try.prog 26 #[.slice A0 l0.length c0, .slice A1 l1.length c1] w fun e w' => e = .returned (.bool r) ∧ Drawn0 w w' := by
  have hu46 := Try.underlying46
  have HR0 := Aside0.mk hr0
  have HC0 := Aside0.mk hc0
  clear hr0 hc0
  have HR1 := Aside0.mk hr1
  have HC1 := Aside0.mk hc1
  clear hr1 hc1
  have H : (if (l0.length : Int) = (l1.length : Int) then (prebendref09_Same.l0 k l0 l1 0) else (some false)) = some r := h
  clear h
  by_cases c3 : (l0.length : Int) = (l1.length : Int)
  · rw [if_pos c3] at H
    have c3b0 : ((l0.length : Int) == (l1.length : Int)) = true := beq_iff_eq.mpr c3
    have c3b1 : ((l0.length : Int) != (l1.length : Int)) = false := bne_eq_false_iff_eq.mpr c3
    have c3b2 : (l0.length == l1.length) = true := by first | simpa using c3 | (simp at c3 ⊢; omega)
    clear c3
    have H' := Aside0.mk H
    clear H
    go_enter Try.func26, Try.ntmps26
    go_wp2
    repeat (go_quiet (fail); try go_wp2)
    go_loopg [5] k (fun kq v5 w' => ∃ (x5_1 : Int), v5 = .int .i64 x5_1 ∧ Aside0 (prebendref09_Same.l0 kq l0 l1 x5_1 = some r) ∧ Aside0 (kq ≤ k) ∧ Drawn0 w w')
    case atStart => exact ⟨(0), (by first | rfl | (simp; done) | (simp [*]; done)), H', ⟨Nat.le_refl _⟩, by repeat (first | exact Drawn0.refl _ | apply Drawn0.step)⟩
    case round =>
      clear H'
      try clear c1
      try clear c2
      try clear p2
      try clear c3
      try clear c3b0
      try clear c3b1
      try clear c3b2
      obtain ⟨x5_1, rfl, HA, HK1, ⟨m1, rfl⟩⟩ := hrel
      cases gk with
      | zero => exact absurd HA.out (by simp [prebendref09_Same.l0])
      | succ k1 =>
        have H := HA.out
        clear HA
        simp only [prebendref09_Same.l0] at H
        by_cases c4 : x5_1 < (l0.length : Int)
        · rw [if_pos c4] at H
          have c4b0 : decide (x5_1 < (l0.length : Int)) = true := decide_eq_true c4
          clear c4
          by_cases c5 : 0 ≤ x5_1
          · rw [if_pos c5] at H
            have c5b0 : decide (0 ≤ x5_1) = true := decide_eq_true c5
            clear c5
            by_cases c6 : x5_1 < (l1.length : Int)
            · rw [if_pos c6] at H
              have c6b0 : decide (x5_1 < (l1.length : Int)) = true := decide_eq_true c6
              clear c6
              by_cases c7 : (!(((rd_T46 l0 x5_1).f0) == ((rd_T46 l1 x5_1).f0)) || (!(((rd_T46 l0 x5_1).f1) == ((rd_T46 l1 x5_1).f1)) || (!(((rd_T46 l0 x5_1).f2) == ((rd_T46 l1 x5_1).f2)) || (!(((rd_T46 l0 x5_1).f3) == ((rd_T46 l1 x5_1).f3)) || (!(((rd_T46 l0 x5_1).f4) == ((rd_T46 l1 x5_1).f4)) || (!(((rd_T46 l0 x5_1).f5) == ((rd_T46 l1 x5_1).f5)))))))) = true
              · rw [if_pos c7] at H
                have c7b0 : (!(((rd_T46 l0 x5_1).f0) == ((rd_T46 l1 x5_1).f0)) || (!(((rd_T46 l0 x5_1).f1) == ((rd_T46 l1 x5_1).f1)) || (!(((rd_T46 l0 x5_1).f2) == ((rd_T46 l1 x5_1).f2)) || (!(((rd_T46 l0 x5_1).f3) == ((rd_T46 l1 x5_1).f3)) || (!(((rd_T46 l0 x5_1).f4) == ((rd_T46 l1 x5_1).f4)) || (!(((rd_T46 l0 x5_1).f5) == ((rd_T46 l1 x5_1).f5)))))))) = true := c7
                clear c7
                obtain rfl := Option.some.inj H
                have p430 : 0 ≤ (x5_1 : Int) := of_decide_eq_true (by first | (with_reducible assumption) | assumption)
                have q430 : x5_1 < (l0.length : Int) := of_decide_eq_true (by first | (with_reducible assumption) | assumption)
                obtain ⟨ad430, e430, hx430_0, hx430_1, hx430_2, hx430_3, hx430_4, hx430_5⟩ := at_T46 HR0.out x5_1 p430 q430
                cases e430
                replace p430 := eq_true p430
                replace q430 := eq_true q430
                have p431 : 0 ≤ (x5_1 : Int) := of_decide_eq_true (by first | (with_reducible assumption) | assumption)
                have q431 : x5_1 < (l1.length : Int) := of_decide_eq_true (by first | (with_reducible assumption) | assumption)
                obtain ⟨ad431, e431, hx431_0, hx431_1, hx431_2, hx431_3, hx431_4, hx431_5⟩ := at_T46 HR1.out x5_1 p431 q431
                cases e431
                replace p431 := eq_true p431
                replace q431 := eq_true q431
                go_wp2
                repeat (go_quiet (fail); try go_wp2)
                go_ret
                exact ⟨by first | rfl | (simp; done) | (simp [*]; done), by repeat (first | exact Drawn0.refl _ | apply Drawn0.step)⟩
              · rw [if_neg c7] at H
                have c7b0 : (!(((rd_T46 l0 x5_1).f0) == ((rd_T46 l1 x5_1).f0)) || (!(((rd_T46 l0 x5_1).f1) == ((rd_T46 l1 x5_1).f1)) || (!(((rd_T46 l0 x5_1).f2) == ((rd_T46 l1 x5_1).f2)) || (!(((rd_T46 l0 x5_1).f3) == ((rd_T46 l1 x5_1).f3)) || (!(((rd_T46 l0 x5_1).f4) == ((rd_T46 l1 x5_1).f4)) || (!(((rd_T46 l0 x5_1).f5) == ((rd_T46 l1 x5_1).f5)))))))) = false := by simpa using c7
                clear c7
                have H' := Aside0.mk H
                clear H
                have p430 : 0 ≤ (x5_1 : Int) := of_decide_eq_true (by first | (with_reducible assumption) | assumption)
                have q430 : x5_1 < (l0.length : Int) := of_decide_eq_true (by first | (with_reducible assumption) | assumption)
                obtain ⟨ad430, e430, hx430_0, hx430_1, hx430_2, hx430_3, hx430_4, hx430_5⟩ := at_T46 HR0.out x5_1 p430 q430
                cases e430
                replace p430 := eq_true p430
                replace q430 := eq_true q430
                have p431 : 0 ≤ (x5_1 : Int) := of_decide_eq_true (by first | (with_reducible assumption) | assumption)
                have q431 : x5_1 < (l1.length : Int) := of_decide_eq_true (by first | (with_reducible assumption) | assumption)
                obtain ⟨ad431, e431, hx431_0, hx431_1, hx431_2, hx431_3, hx431_4, hx431_5⟩ := at_T46 HR1.out x5_1 p431 q431
                cases e431
                replace p431 := eq_true p431
                replace q431 := eq_true q431
                go_wp2
                repeat (go_quiet (fail); try go_wp2)
                go_roundg k1
                case measure => have := HK1.out; omega
                case rel => exact ⟨(wrap64 (x5_1 + 1)), (by first | rfl | (simp; done) | (simp [*]; done)), H', ⟨by have := HK1.out; omega⟩, by repeat (first | exact Drawn0.refl _ | apply Drawn0.step)⟩
            · rw [if_neg c6] at H
              exact absurd H (by simp)
          · rw [if_neg c5] at H
            exact absurd H (by simp)
        · rw [if_neg c4] at H
          have c4b0 : decide (x5_1 < (l0.length : Int)) = false := decide_eq_false c4
          clear c4
          obtain rfl := Option.some.inj H
          go_wp2
          repeat (go_quiet (fail); try go_wp2)
          go_ret
          exact ⟨by first | rfl | (simp; done) | (simp [*]; done), by repeat (first | exact Drawn0.refl _ | apply Drawn0.step)⟩
  · rw [if_neg c3] at H
    have c3b0 : ((l0.length : Int) == (l1.length : Int)) = false := beq_eq_false_iff_ne.mpr c3
    have c3b1 : ((l0.length : Int) != (l1.length : Int)) = true := bne_iff_ne.mpr c3
    have c3b2 : (l0.length == l1.length) = false := by first | simpa using c3 | (simp at c3 ⊢; omega)
    obtain rfl := Option.some.inj H
    go_enter Try.func26, Try.ntmps26
    go_wp2
    repeat (go_quiet (fail); try go_wp2)
    go_ret
    exact ⟨by first | rfl | (simp; done) | (simp [*]; done), by repeat (first | exact Drawn0.refl _ | apply Drawn0.step)⟩

end Go.Proofs.Ytlccomoiajnkmaa.PAll
end
