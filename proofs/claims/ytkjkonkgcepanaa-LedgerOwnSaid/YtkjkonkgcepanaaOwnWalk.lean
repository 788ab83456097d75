/- What is handed to a posting stays as it was: the walk through the statement. -/
import Derived.Test.YtkjkonkgcepanaaPAllx11
import Derived.Test.YtkjkonkgcepanaaPAllx6
import Derived.Test.YtkjkonkgcepanaaPAllx19
import Derived.Test.YtkjkonkgcepanaaPAllx7
import Derived.Test.YtkjkonkgcepanaaPAllx8
import Derived.Test.YtkjkonkgcepanaaPAllx2
import Derived.Test.YtkjkonkgcepanaaPAllx5
import Derived.Test.YtkjkonkgcepanaaPAllx10
import Derived.Test.YtkjkonkgcepanaaPAllx3
import Derived.Test.YtkjkonkgcepanaaPAllx18
import Derived.Test.YtkjkonkgcepanaaPAllx20
import Derived.Test.YtkjkonkgcepanaaOwnPost
set_option linter.unusedVariables false
set_option linter.unusedSimpArgs false
namespace Go.Proofs.Ytkjkonkgcepanaa.PAll
open Go.RowKit Go.Proofs.YtkjkonkgcepanaaW.PrintWords Go.Proofs.YtkjkonkgcepanaaW.PrintLast Go.Proofs.YtkjkonkgcepanaaW.PrintMore
theorem few_at (A : Option Addr) (c : Nat) (l x : List S39) (w : World) (hc : l.length ≤ c) (hx : l.take 20 = x) :
    Calls Try.prog 9 #[.slice A l.length c] w fun e w' => e = .returned (.slice A x.length c) ∧ w' = w := by
  by_cases h : (l.length : Int) > 20
  · have c1 : decide (20 < (l.length : Int)) = true := decide_eq_true h
    have c2 : decide (20 < l.length) = true := decide_eq_true (by omega)
    obtain ⟨i07, hi07, _, hsz7, _⟩ := info_parts info39
    have hcut7 := cut_to (P := Try.prog) 22 39 .i64 Try.underlying22 hi07 A l.length c 20 (by omega) (by omega) hc
    have hlen : x.length = (20 : Int).toNat := by rw [← hx, List.length_take]; omega
    rw [← hlen] at hcut7
    clear hx hi07 hsz7 hlen h
    go_enter Try.func9, Try.ntmps9
    go_wp2
    go_ret
    exact ⟨rfl, rfl⟩
  · have c1 : decide (20 < (l.length : Int)) = false := decide_eq_false h
    have c2 : decide (20 < l.length) = false := decide_eq_false (by omega)
    have e : x = l := by rw [← hx, List.take_of_length_le (by omega)]
    subst e
    clear hx h
    go_enter Try.func9, Try.ntmps9
    go_wp2
    go_ret
    exact ⟨rfl, rfl⟩
theorem some_at (A : Option Addr) (c : Nat) (l x : List S37) (w : World) (hc : l.length ≤ c) (hx : l.take 70 = x) :
    Calls Try.prog 10 #[.slice A l.length c] w fun e w' => e = .returned (.slice A x.length c) ∧ w' = w := by
  by_cases h : (l.length : Int) > 70
  · have c1 : decide (70 < (l.length : Int)) = true := decide_eq_true h
    have c2 : decide (70 < l.length) = true := decide_eq_true (by omega)
    obtain ⟨i07, hi07, _, hsz7, _⟩ := info_parts info37
    have hcut7 := cut_to (P := Try.prog) 23 37 .i64 Try.underlying23 hi07 A l.length c 70 (by omega) (by omega) hc
    have hlen : x.length = (70 : Int).toNat := by rw [← hx, List.length_take]; omega
    rw [← hlen] at hcut7
    clear hx hi07 hsz7 hlen h
    go_enter Try.func10, Try.ntmps10
    go_wp2
    go_ret
    exact ⟨rfl, rfl⟩
  · have c1 : decide (70 < (l.length : Int)) = false := decide_eq_false h
    have c2 : decide (70 < l.length) = false := decide_eq_false (by omega)
    have e : x = l := by rw [← hx, List.take_of_length_le (by omega)]
    subst e
    clear hx h
    go_enter Try.func10, Try.ntmps10
    go_wp2
    go_ret
    exact ⟨rfl, rfl⟩
/-- What is held behind the posting: the rows of the call's own, the posting's row. -/
structure OwnSt (w W0 : World) (Ax Ay : Option Addr) (x : List S39) (y : List S37) (m : Value) (out : List S39) (W : World) : Prop where
  base : w.heap.size ≤ W0.heap.size
  bw : Below w.heap.size w W0
  bm : Below W0.heap.size W0 W
  cx : Kd.C k39 W0 Ax x.length x
  cy : Kd.C k37 W0 Ay y.length y
  rm : Kd.R k39 39 W W0.heap.size (fun _ => True) m out
theorem OwnSt.go {w W0 : World} {Ax Ay : Option Addr} {x : List S39} {y : List S37} {m : Value} {out : List S39} {W W' : World} (h : OwnSt w W0 Ax Ay x y m out W) (hb : Below W.heap.size W W') : OwnSt w W0 Ax Ay x y m out W' :=
  ⟨h.base, h.bw, h.bm.trans (hb.mono h.bm.size), h.cx, h.cy, Kd.R_below h.rm hb⟩
theorem OwnSt.rowx {w W0 : World} {Ax Ay : Option Addr} {x : List S39} {y : List S37} {m : Value} {out : List S39} {W : World} (h : OwnSt w W0 Ax Ay x y m out W) : Kd.C k39 W Ax x.length x := Kd.C_below h.cx h.bm
theorem OwnSt.rowy {w W0 : World} {Ax Ay : Option Addr} {x : List S39} {y : List S37} {m : Value} {out : List S39} {W : World} (h : OwnSt w W0 Ax Ay x y m out W) : Kd.C k37 W Ay y.length y := Kd.C_below h.cy h.bm
theorem OwnSt.below {w W0 : World} {Ax Ay : Option Addr} {x : List S39} {y : List S37} {m : Value} {out : List S39} {W : World} (h : OwnSt w W0 Ax Ay x y m out W) : Below w.heap.size w W := h.bw.trans (h.bm.mono h.base)
theorem OwnSt.old {w W0 : World} {Ax Ay : Option Addr} {x : List S39} {y : List S37} {m : Value} {out : List S39} {W : World} (h : OwnSt w W0 Ax Ay x y m out W) {α : Type} {d : Kd α} {A : Option Addr} {n : Nat} {xs : List α} (hc : Kd.C d w A n xs) : Kd.C d W A n xs := Kd.C_below hc h.below
theorem off_at (i : Nat) : offOf (1 + 3 * (i : Int)) = i * 6 + 3 := by unfold offOf; omega
theorem OwnSt.cell {w W0 : World} {Ax Ay : Option Addr} {x : List S39} {y : List S37} {ad : Addr} {n cc g : Nat} {out : List S39} {W : World} (h : OwnSt w W0 Ax Ay x y (.slice (some ad) n cc) out W) (hg : ad = ⟨g, 0, none⟩) (i : Nat) (hi : i < n) :
    W.cell? ⟨(ad.add (i * 6)).block, (ad.add (i * 6)).off + 3, none⟩ = some (.int .i64 (rd_T39 out (i : Int)).f3) ∧ W.frozen? ⟨(ad.add (i * 6)).block, (ad.add (i * 6)).off + 3, none⟩ = false := by
  subst hg
  have := acct_cell h.rm (1 + 3 * (i : Int)) (by omega) (by omega)
  rw [off_at, show (1 + 3 * (i : Int) - 1) / 3 = (i : Int) by omega, show (1 + 3 * (i : Int) - 1) % 3 = 0 by omega] at this
  rw [add_plain]
  exact this
theorem OwnSt.set {w W0 : World} {Ax Ay : Option Addr} {x : List S39} {y : List S37} {ad : Addr} {n cc g : Nat} {out : List S39} {W : World} (h : OwnSt w W0 Ax Ay x y (.slice (some ad) n cc) out W) (hg : ad = ⟨g, 0, none⟩) (i : Nat) (hi : i < n) (v : Int) :
    OwnSt w W0 Ax Ay x y (.slice (some ad) n cc) (setAcct out (1 + 3 * (i : Int)) v) (W.setCell ⟨(ad.add (i * 6)).block, (ad.add (i * 6)).off + 3, none⟩ (.int .i64 v)) := by
  subst hg
  have hs := acct_store h.rm (1 + 3 * (i : Int)) (by omega) (by omega) v
  rw [off_at] at hs
  rw [add_plain]
  exact ⟨h.base, h.bw, below_set h.bm (Kd.R_base h.rm g rfl), h.cx, h.cy, hs.1⟩
def prebendlaw09_LedgerOwn.Pure : Prop := ∀ (a0 : Int) (l1 : List S39) (l2 : List S37), (l2.length ≤ maxLen ∧ ∀ y ∈ l2, g37 y) → ∃ (K : Nat) (r1 : Int) (r2 : List S39) (r3 : Int), ledger_Post.f K a0 (l1.take 20) (l2.take 70) = some (r1, r2, r3) ∧ r2.length ≤ 20 ∧ prebendref09_Same.f K (l1.take 20) (l1.take 20) = some true ∧ prebendlaw09_awake.f K = some true
set_option maxHeartbeats 8000000 in
set_option maxRecDepth 100000 in
theorem prebendlaw09_LedgerOwn.walk (P : prebendlaw09_LedgerOwn.Pure) (a0 : Int) (A1 : Option Addr) (c1 : Nat) (l1 : List (S39)) (A2 : Option Addr) (c2 : Nat) (l2 : List (S37)) (w : World) (hr1 : Kd.C k39 w A1 l1.length l1) (hc1 : l1.length ≤ c1) (hr2 : Kd.C k37 w A2 l2.length l2) (hc2 : l2.length ≤ c2) (h0_ : (Lit.int .i64 a0).wf = true) (h1_ : (l1.length ≤ maxLen ∧ ∀ y ∈ l1, g39 y)) (h2_ : (l2.length ≤ maxLen ∧ ∀ y ∈ l2, g37 y)) :
    Calls Try.prog 6 #[.int .i64 a0, .slice A1 l1.length c1, .slice A2 l2.length c2] w fun e w' => e = .returned (.bool true) ∧ Below w.heap.size w w' := by
  have hu37 := Try.underlying37
  obtain ⟨K, r1, r2, r3, p1, p2, p3, p4⟩ := P a0 l1 l2 h2_
  obtain ⟨x, hx⟩ : ∃ x, l1.take 20 = x := ⟨_, rfl⟩
  obtain ⟨y, hy⟩ : ∃ y, l2.take 70 = y := ⟨_, rfl⟩
  rw [hx] at p1 p3
  rw [hy] at p1
  have HXL : Aside0 (x.length ≤ l1.length ∧ x.length ≤ 20) := ⟨by rw [← hx, List.length_take]; omega⟩
  have HYL : Aside0 (y.length ≤ l2.length ∧ y.length ≤ 70) := ⟨by rw [← hy, List.length_take]; omega⟩
  have HLEN : Aside0 (x.length ≤ 20 ∧ y.length ≤ 70) := ⟨HXL.out.2, HYL.out.2⟩
  have HX : Aside0 (Kd.C k39 w A1 x.length x) := ⟨by
    have := Kd.C_take (m := min 20 l1.length) hr1 (by omega)
    rw [show l1.take (min 20 l1.length) = x by rw [← hx, List.take_eq_take_iff]; omega] at this
    exact this⟩
  have HY : Aside0 (Kd.C k37 w A2 y.length y) := ⟨by
    have := Kd.C_take (m := min 70 l2.length) hr2 (by omega)
    rw [show l2.take (min 70 l2.length) = y by rw [← hy, List.take_eq_take_iff]; omega] at this
    exact this⟩
  have HXC : Aside0 (x.length ≤ c1) := ⟨by have := HXL.out.1; omega⟩
  have HYC : Aside0 (y.length ≤ c2) := ⟨by have := HYL.out.1; omega⟩
  have HYG : Aside0 (∀ i : Int, 0 ≤ i → i < (y.length : Int) → rd_T37 l2 i = rd_T37 y i) := ⟨fun i h0 h1 => by
    rw [← hy] at h1 ⊢
    unfold rd_T37
    simp only [List.getD_eq_getElem?_getD]
    rw [List.getElem?_take_of_lt (by rw [List.length_take] at h1; omega)]⟩
  have HR2 := Aside0.mk hr2
  have HC1 := Aside0.mk hc1
  have HC2 := Aside0.mk hc2
  have HXE := Aside0.mk hx
  have HYE := Aside0.mk hy
  have HPOST := Aside0.mk p1
  have HML := Aside0.mk p2
  have HSAME := Aside0.mk p3
  have HAWAKE := Aside0.mk p4
  have HB := Aside0.mk (Below.refl w.heap.size w)
  clear hr1 hr2 hc1 hc2 h0_ h1_ h2_ p1 p2 p3 p4 hx hy P
  go_enter Try.func6, Try.ntmps6
  go_wp2_with (first | ((with_reducible refine gate_dst (N := 14) rfl ?_); (try (refine gate_guard (by rfl) ?_; dsimp only)); refine Kd.R_lit k39 _ 39 ?hg (N := 14) ?hd (xs := ([] : List (S39))) (inner := []) (ok := fun _ => True) (okp := fun _ => True) ?hr ?hp (fun _ hk => hk) trivial (Below.refl _ _) (Nat.le_refl _) (by simp) ?_; (case hd => rfl); (case hg => rfl); (case hr => first | (go_simp; done) | (go_simp; rfl)); (case hp => exact (Reps.none _ _)); intro vL wL hoL hb hg_ hnew_; clear hg_ hnew_; have n1_ := Aside0.mk (Kd.R_lower hoL HB.out.size); have n2_ := Aside0.mk (HB.out.trans (hb.mono HB.out.size)); skip; clear HB; have HOL := n1_; have HB := n2_; clear n1_ n2_ hb hoL) | (go_at_call 9; with_reducible refine (few_at A1 c1 l1 x _ HC1.out HXE.out).mono ?_; rintro e w1 ⟨rfl, rfl⟩) | ((with_reducible refine gate_builtin (b := .append) (xs := #[.tmp 14, .tmp 16]) rfl ?_); (try (refine gate_guard (by rfl) ?_; dsimp only)); at_builtin; refine Kd.R_append_rows k39 (w0 := w) w.heap.size rfl (.tmp 14) (.tmp 16) 22 39 (.agg #[(.int .i64 0), (.int .i64 0), (.int .i64 0), (.int .i64 0), (.int .i64 0), (.int .i64 0)]) 48 rfl Try.underlying22 info39 rfl (by decide) (by omega) vL ([] : List S39) x _ _ _ (fun _ => True) (fun _ => False) rfl rfl ?aO ?aR (fun _ _ h => h) (fun _ h => h.elim) ?aF ?aB ?aS ?aL ?_; (case aR => exact (Kd.C_below HX.out HB.out)); (case aB => exact HB.out); (case aF => exact (fun _ _ => trivial)); (case aO => exact HOL.out); (case aS => exact HB.out.size); (case aL => have := HLEN.out; simp only [List.length_nil]; omega); intro vA wA ho hb hg hat; rw [List.nil_append] at ho; skip; clear HB HOL; have HB := Aside0.mk hb; have HROWX := Aside0.mk ho; clear ho hb hg hat) | ((with_reducible refine gate_dst (N := 18) rfl ?_); (try (refine gate_guard (by rfl) ?_; dsimp only)); refine Kd.R_lit k37 _ 37 ?hg (N := 18) ?hd (xs := ([] : List (S37))) (inner := []) (ok := fun _ => True) (okp := fun _ => True) ?hr ?hp (fun _ hk => hk) trivial (Below.refl _ _) (Nat.le_refl _) (by simp) ?_; (case hd => rfl); (case hg => rfl); (case hr => first | (go_simp; done) | (go_simp; rfl)); (case hp => exact (Reps.none _ _)); intro vL wL hoL hb hg_ hnew_; clear hg_ hnew_; have n1_ := Aside0.mk (Kd.R_lower hoL HB.out.size); have n2_ := Aside0.mk (HB.out.trans (hb.mono HB.out.size)); have kx_ := Aside0.mk (Kd.R_below HROWX.out hb); clear HROWX; have HROWX := kx_; clear kx_; clear HB; have HOL := n1_; have HB := n2_; clear n1_ n2_ hb hoL) | (go_at_call 10; with_reducible refine (some_at A2 c2 l2 y _ HC2.out HYE.out).mono ?_; rintro e w1 ⟨rfl, rfl⟩) | ((with_reducible refine gate_builtin (b := .append) (xs := #[.tmp 18, .tmp 20]) rfl ?_); (try (refine gate_guard (by rfl) ?_; dsimp only)); at_builtin; refine Kd.R_append_rows k37 (w0 := w) w.heap.size rfl (.tmp 18) (.tmp 20) 23 37 (.agg #[(.int .i64 0), (.int .i64 0)]) 16 rfl Try.underlying23 info37 rfl (by decide) (by omega) vL ([] : List S37) y _ _ _ (fun _ => True) (fun _ => False) rfl rfl ?aO ?aR (fun _ _ h => h) (fun _ h => h.elim) ?aF ?aB ?aS ?aL ?_; (case aR => exact (Kd.C_below HY.out HB.out)); (case aB => exact HB.out); (case aF => exact (fun _ _ => trivial)); (case aO => exact HOL.out); (case aS => exact HB.out.size); (case aL => have := HLEN.out; simp only [List.length_nil]; omega); intro vA wA ho hb hg hat; rw [List.nil_append] at ho; have kx_ := Aside0.mk (Kd.R_over' HROWX.out (Kd.R_typed HOL.out) (by decide) hg); clear HROWX; have HROWX := kx_; clear kx_; clear HB HOL; have HB := Aside0.mk hb; have HROWY := Aside0.mk ho; clear ho hb hg hat) | (go_at_call 8; obtain ⟨Ax, cx, hvx, hccx, hCx⟩ := Kd.R_reads HROWX.out; obtain ⟨Ay, cy, hvy, hccy, hCy⟩ := Kd.R_reads HROWY.out; subst hvx; subst hvy; with_reducible refine (ledger_Post.own K a0 Ax cx x Ay cy y r1 r2 r3 _ hCx hccx hCy hccy HPOST.out).mono ?_; rintro e w3 ⟨B_, n_, cc_, rfl, hn, ho, hb⟩; have HN2 := Aside0.mk hn; obtain ⟨W0, HO⟩ : ∃ W0, Aside0 (OwnSt w W0 Ax Ay x y (.slice B_ n_ cc_) r2 w3) := ⟨_, ⟨⟨HB.out.size, HB.out, hb, hCx, hCy, ho⟩⟩⟩; have HCX := Aside0.mk hccx; have HCY := Aside0.mk hccy; clear HROWX HROWY HB hCx hCy hccx hccy ho hb hn) | (go_at_call 13; with_reducible refine (prebendref09_Same.calls K Ax cx x A1 c1 x true _ HO.out.rowx HCX.out (HO.out.old HX.out) HXC.out HSAME.out).mono ?_; rintro e w4 ⟨rfl, hd⟩; have q_ := Aside0.mk (HO.out.go hd.below); clear HO hd; have HO := q_; clear q_))
  go_loopg [12] 200 (fun kq v12 wc => ∃ i : Nat, v12 = .int .i64 (i : Int) ∧ Aside0 (i ≤ y.length ∧ 100 ≤ kq + i) ∧ Aside0 (OwnSt w W0 Ax Ay x y (.slice B_ n_ cc_) r2 wc))
  case atStart => exact ⟨0, rfl, ⟨by omega⟩, HO⟩
  case round =>
    clear HO
    obtain ⟨i, rfl, HI, HO⟩ := hrel
    by_cases c : i < y.length
    · have d1 : decide ((i : Int) < (y.length : Int)) = true := decide_eq_true (by omega)
      have d2 : decide (i < y.length) = true := decide_eq_true c
      obtain ⟨k1, rfl⟩ : ∃ k1, gk = k1 + 1 := ⟨gk - 1, by have := HI.out; have := HYL.out; omega⟩
      obtain ⟨ad, e1, q0, q1⟩ := at_T37 HO.out.rowy (i : Int) (by omega) (by omega)
      obtain ⟨bd, e2, s0, s1⟩ := at_T37 (HO.out.old HR2.out) (i : Int) (by omega) (by have := HYL.out; omega)
      cases e1
      cases e2
      rw [HYG.out (i : Int) (by omega) (by omega)] at s0 s1
      rw [show ((i : Int)).toNat = i by omega] at q0 q1 s0 s1
      have c3 : ((i : Int) < (l2.length : Int)) = True := eq_true (by have := HYL.out; omega)
      have c4 : (i < l2.length) = True := eq_true (by have := HYL.out; omega)
      have c5 : ((i : Int) < (y.length : Int)) = True := eq_true (by omega)
      have c6 : (i < y.length) = True := eq_true c
      have c7 : (0 ≤ (i : Int)) = True := eq_true (by omega)
      have CI := Aside0.mk c
      clear c
      go_wp2
      go_region
      all_goals go_wp2
      all_goals (
        go_roundg k1
        case measure => omega
        case rel => exact ⟨i + 1, (by have := CI.out; have := HYL.out; rw [show wrap64 ((i : Int) + 1) = ((i + 1 : Nat) : Int) by unfold wrap64; omega]), ⟨by have := HI.out; have := CI.out; omega⟩, ⟨HO.out.go (Below.refl _ _).drew⟩⟩)
    · have d1 : decide ((i : Int) < (y.length : Int)) = false := decide_eq_false (by omega)
      have d2 : decide (i < y.length) = false := decide_eq_false c
      clear c HI
      go_wp2
      go_loopg [13] 100 (fun kq v13 wc => ∃ (j : Nat) (out : List S39), v13 = .int .i64 (j : Int) ∧ Aside0 (j ≤ n_ ∧ 50 ≤ kq + j ∧ out.length = r2.length) ∧ Aside0 (OwnSt w W0 Ax Ay x y (.slice B_ n_ cc_) out wc))
      case atStart => exact ⟨0, r2, rfl, ⟨by omega⟩, HO⟩
      case round =>
        clear HO
        obtain ⟨j, out, rfl, HI, HO⟩ := hrel
        by_cases c : j < n_
        · have f1 : decide ((j : Int) < (n_ : Int)) = true := decide_eq_true (by omega)
          have f2 : decide (j < n_) = true := decide_eq_true c
          obtain ⟨k1, rfl⟩ : ∃ k1, gk = k1 + 1 := ⟨gk - 1, by have := HI.out; have := HML.out; have := HN2.out; omega⟩
          obtain ⟨g, cap, hv, _⟩ := Kd.R_form HO.out.rm (by have := HI.out; have := HN2.out; omega)
          have hA : B_ = some ⟨g, 0, none⟩ := by injection hv
          clear hv
          obtain ⟨ad, had⟩ : ∃ ad : Addr, ad = ⟨g, 0, none⟩ := ⟨_, rfl⟩
          rw [← had] at hA
          subst hA
          have HAD := Aside0.mk had
          obtain ⟨q1, q2⟩ := HO.out.cell had j c
          have c3 : ((j : Int) < (n_ : Int)) = True := eq_true (by omega)
          have c4 : (j < n_) = True := eq_true c
          have c5 : (0 ≤ (j : Int)) = True := eq_true (by omega)
          have CJ := Aside0.mk c
          clear c had
          go_wp2
          go_roundg k1
          case measure => omega
          case rel => exact ⟨j + 1, setAcct out (1 + 3 * (j : Int)) (wrap64 ((rd_T39 out (j : Int)).f3 + 1)), (by have := HI.out; have := HML.out; have := HN2.out; have := CJ.out; first | rfl | (rw [show wrap64 ((j : Int) + 1) = ((j + 1 : Nat) : Int) by unfold wrap64; omega])), ⟨by have hh := HI.out; have := CJ.out; refine ⟨by omega, by omega, ?_⟩; unfold setAcct; rw [List.length_set]; exact hh.2.2⟩, ⟨HO.out.set HAD.out j CJ.out _⟩⟩
        · have f1 : decide ((j : Int) < (n_ : Int)) = false := decide_eq_false (by omega)
          have f2 : decide (j < n_) = false := decide_eq_false c
          clear c HI
          go_wp2_with (first | (go_at_call 12; with_reducible refine (prebendlaw09_awake.calls K true _ HAWAKE.out).mono ?_; rintro e w5 ⟨rfl, hb⟩; have q_ := Aside0.mk (HO.out.go hb); clear HO hb; have HO := q_; clear q_) | (go_at_call 9; with_reducible refine (few_at A1 c1 l1 x _ HC1.out HXE.out).mono ?_; rintro e w1 ⟨rfl, rfl⟩) | (go_at_call 13; with_reducible refine (prebendref09_Same.calls K Ax cx x A1 c1 x true _ HO.out.rowx HCX.out (HO.out.old HX.out) HXC.out HSAME.out).mono ?_; rintro e w4 ⟨rfl, hd⟩; have q_ := Aside0.mk (HO.out.go hd.below); clear HO hd; have HO := q_; clear q_))
          go_ret
          exact ⟨rfl, HO.out.below⟩
end Go.Proofs.Ytkjkonkgcepanaa.PAll
