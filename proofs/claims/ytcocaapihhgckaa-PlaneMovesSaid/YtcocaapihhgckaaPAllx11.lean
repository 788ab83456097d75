/- Contracts of functions of the program, each with a plain function of the same answers; written by a program of this workplace. -/
import Derived.Test.YtcocaapihhgckaaPAllx0
import Derived.Test.YtcocaapihhgckaaPAllx3
namespace Go.Proofs.Ytcocaapihhgckaa.PAll
open Go.RowKit Go.Proofs.YtcocaapihhgckaaW.PrintWords Go.Proofs.YtcocaapihhgckaaW.PrintLast Go.Proofs.YtcocaapihhgckaaW.PrintMore
attribute [local go_sem] max2_int min2_int max_two min_two max_three min_three max_four min_four   -- for this text's walks alone
set_option linter.unusedVariables false
set_option linter.unusedSimpArgs false

/-! ### plane_Rows: function 18 -/
theorem least_of (p : Nat → Prop) (h : ∃ k, p k) : ∃ k, p k ∧ ∀ j, p j → k ≤ j := by
  obtain ⟨k, hk⟩ := h
  induction k using Nat.strongRecOn with
  | _ k ih =>
    by_cases hc : ∃ j, j < k ∧ p j
    · obtain ⟨j, hj, pj⟩ := hc
      exact ih j hj pj
    · exact ⟨k, hk, fun j pj => Nat.le_of_not_lt fun hlt => hc ⟨j, hlt, pj⟩⟩
open Classical in
theorem wp_scope_ghost {P : Program} {a : Act} {w : World} {Q : Exit → Act → World → Prop} {c rest : Code} (l : Nat) (R : Nat → Act → World → Prop) (hf : findLabel c l = some (Code.skip.seq rest))
    (pass : ∀ k a w, R k a w → rest.wp P (Exit.jump l (fun a' w' => ∃ k', k' < k ∧ R k' a' w') Q) a w)
    (first : (∀ k a w, R k a w → rest.wp P (Exit.jump l (fun a' w' => ∃ k', R k' a' w') Q) a w) → c.wp P (Exit.jump l (fun a' w' => ∃ k', R k' a' w') Q) a w) : (Code.scope c).wp P Q a w := by
  refine wp_scope_jumps l (fun a' w' => ∃ k', R k' a' w') (fun a' w' => if h : ∃ k', R k' a' w' then Classical.choose (least_of _ h) else 0) hf (first ?_) ?_
  · intro k a w h
    refine wp_mono (pass k a w h) ?_
    intro e a' w' hq
    cases e <;> first | exact hq | (obtain ⟨e1, k', _, h'⟩ := hq; exact ⟨e1, k', h'⟩)
  · intro a w h
    refine wp_seq (wp_skip ?_)
    show rest.wp _ _ _ _
    refine wp_mono (pass _ a w (Classical.choose_spec (least_of _ h)).1) ?_
    intro e a' w' hq
    cases e <;> first | exact hq | skip
    obtain ⟨e1, k', hk, h'⟩ := hq
    refine ⟨e1, ⟨k', h'⟩, ?_⟩
    have h2 : ∃ k', R k' a' w' := ⟨k', h'⟩
    simp only [dif_pos h2, dif_pos h]
    exact Nat.lt_of_le_of_lt ((Classical.choose_spec (least_of _ h2)).2 _ h') hk
def bitOf (m n : Int) : Int := Go.bits .and .i64 (shr .i64 m n) 1
mutual
def plane_Rows.up : Nat → Int → Int → Int → Option Int
  | 0, _, _, _ => none
  | k + 1, t, m, n => if n < 32 then (if bitOf m n = t then plane_Rows.up k t m (n + 1) else some n) else some n
end
def plane_Rows.l : Nat → Int → Int → Int → List S23 → Int → Option (List S23)
  | 0, _, _, _, _, _ => none
  | k + 1, a0, a1, a2, out, n => (plane_Rows.up 40 0 a2 n).bind fun p => if p = 32 then some out else (plane_Rows.up 40 1 a2 p).bind fun q => plane_Rows.l k a0 a1 a2 (out ++ [(⟨a0, p, a1, q - p⟩ : S23)]) q
def plane_Rows.f (a0 a1 a2 : Int) : Option (List S23) := (plane_Good.f a0 0 a1 1).bind fun g => if g = true then plane_Rows.l 40 a0 a1 a2 [] 0 else some []
structure RowsAt (a0 a1 a2 : Int) (r : List S23) (w : World) (k : Nat) (a' : Act) (w' : World) : Prop where mk :: (out : ∃ (out : List S23) (n : Int) (v7 u3 u4 u5 u9 u10 u11 u12 u13 u14 u15 u16 u17 u18 u19 u20 u21 u22 u23 u24 u25 u26 u27 u28 u29 u30 u31 u32 u33 u34 u35 u36 u37 u38 u39 u40 u41 u42 u43 u44 u45 u46 u47 u48 u49 u50 u51 u52 : Value), a' = { tmps := #[.int .i64 a0, .int .i64 a1, .int .i64 a2, u3, u4, u5, .slice none 0 0, v7, .int .i64 n, u9, u10, u11, u12, u13, u14, u15, u16, u17, u18, u19, u20, u21, u22, u23, u24, u25, u26, u27, u28, u29, u30, u31, u32, u33, u34, u35, u36, u37, u38, u39, u40, u41, u42, u43, u44, u45, u46, u47, u48, u49, u50, u51, u52], defers := [] } ∧ 0 ≤ n ∧ n ≤ 32 ∧ out.length + k ≤ 40 ∧ plane_Rows.l k a0 a1 a2 out n = some r ∧ Kd.R k23 23 w' w.heap.size (fun _ => True) v7 out ∧ Below w.heap.size w w')
set_option maxHeartbeats 4000000 in
set_option maxRecDepth 100000 in
theorem plane_Rows.calls (a0 : Int) (a1 : Int) (a2 : Int) (r : List (S23)) (w : World) (h : plane_Rows.f a0 a1 a2 = some r) :
    Calls Try.prog 18 #[.int .i64 a0, .int .i64 a1, .int .i64 a2] w fun e w' => ∃ v0_ : Value, e = .returned (v0_) ∧ Kd.R k23 23 w' w.heap.size (fun _ => True) v0_ r ∧ Below w.heap.size w w' := by
  have hu23 := Try.underlying23
  obtain ⟨g, hg, h2⟩ := Option.bind_eq_some_iff.1 h
  have HG := Aside0.mk hg
  have H0 := Aside0.mk h2
  clear hg h2 h
  go_enter Try.func18, Try.ntmps18
  go_wp2_with (fail)
  refine wp_scope_ghost 0 (fun k a' w' => RowsAt a0 a1 a2 r w k a' w') rfl ?_ ?_
  · rintro k a' w' ⟨out, n, v7, u3, u4, u5, u9, u10, u11, u12, u13, u14, u15, u16, u17, u18, u19, u20, u21, u22, u23, u24, u25, u26, u27, u28, u29, u30, u31, u32, u33, u34, u35, u36, u37, u38, u39, u40, u41, u42, u43, u44, u45, u46, u47, u48, u49, u50, u51, u52, rfl, hn0, hn1, hlen, hl, ho, hb⟩
    cases k with
    | zero => simp [plane_Rows.l] at hl
    | succ k =>
      obtain ⟨p, hp, hl⟩ := Option.bind_eq_some_iff.1 hl
      have HL := Aside0.mk hl
      have HO := Aside0.mk ho
      have HB := Aside0.mk hb
      have HP := Aside0.mk hp
      clear hl ho hb hp
      go_wp2_with (fail)
      go_loopg [8] 40 (fun kq v8 wc => ∃ m : Int, v8 = .int .i64 m ∧ Aside0 (plane_Rows.up kq 0 a2 m = some p) ∧ Aside0 (0 ≤ m ∧ m ≤ 32) ∧ wc = w')
      case atStart => exact ⟨n, rfl, HP, ⟨hn0, hn1⟩, rfl⟩
      case round =>
        obtain ⟨m, rfl, hu, hm, rfl⟩ := hrel
        cases gk with
        | zero => exact absurd hu.out (by simp [plane_Rows.up])
        | succ k2 =>
          obtain ⟨m0, m1⟩ := hm.out
          have H := hu.out
          simp only [plane_Rows.up] at H
          by_cases c1 : m < 32
          · rw [if_pos c1] at H
            have d1 : decide (m < 32) = true := decide_eq_true c1
            have e0 := eq_true m0
            have e1 : decide (0 ≤ m) = true := decide_eq_true m0
            have hz : shr .i64 a2 m = a2 / 2 ^ m.toNat := (shr_small rfl (by have : (IntKind.i64.bits : Int) = 64 := rfl; omega)).symm
            unfold bitOf at H
            rw [hz] at H
            have f32 : (m == 32) = false := beq_eq_false_iff_ne.mpr (by omega)
            have g32 : ¬ (m = 32) := by omega
            by_cases c2 : Go.bits .and .i64 (a2 / 2 ^ m.toNat) 1 = 0
            · rw [if_pos c2] at H
              have b0 : ((Go.bits .and .i64 (a2 / 2 ^ m.toNat) 1) == 0) = true := beq_iff_eq.mpr c2
              have H' := Aside0.mk H
              clear H c1 hu hz
              go_wp2_with (fail)
              go_roundg k2
              case measure => omega
              case rel => exact ⟨m + 1, rfl, H', ⟨by omega, by omega⟩, rfl⟩
            · rw [if_neg c2] at H
              have b0 : ((Go.bits .and .i64 (a2 / 2 ^ m.toNat) 1) == 0) = false := beq_eq_false_iff_ne.mpr c2
              have HL2 := HL.out
              obtain rfl : m = p := Option.some.inj H
              rw [if_neg g32] at HL2
              obtain ⟨q, hq, HL2⟩ := Option.bind_eq_some_iff.1 HL2
              have HQ := Aside0.mk hq
              have HL3 := Aside0.mk HL2
              clear H c1 hu HL HL2 HP hz hq g32
              go_wp2_with (fail)
              clear e0 e1 b0 f32 d1
              go_loopg [8] 40 (fun kq v8 wc => ∃ m2 : Int, v8 = .int .i64 m2 ∧ Aside0 (plane_Rows.up kq 1 a2 m2 = some q) ∧ Aside0 (m ≤ m2 ∧ m2 ≤ 32) ∧ wc = wr.alloc (.cells #[.int .i64 a0, .int .i64 m, .int .i64 a1, .int .i64 0] 23 (0, 0)))
              case atStart => exact ⟨m, rfl, HQ, ⟨by omega, by omega⟩, rfl⟩
              case round =>
                obtain ⟨m2, rfl, hu2, hm2, rfl⟩ := hrel
                cases gk with
                | zero => exact absurd hu2.out (by simp [plane_Rows.up])
                | succ k3 =>
                  obtain ⟨n0, n1⟩ := hm2.out
                  have m20 : 0 ≤ m2 := by omega
                  have H := hu2.out
                  simp only [plane_Rows.up] at H
                  by_cases c1 : m2 < 32
                  · rw [if_pos c1] at H
                    have d1 : decide (m2 < 32) = true := decide_eq_true c1
                    have e0 := eq_true m20
                    have e1 : decide (0 ≤ m2) = true := decide_eq_true m20
                    have hz : shr .i64 a2 m2 = a2 / 2 ^ m2.toNat := (shr_small rfl (by have : (IntKind.i64.bits : Int) = 64 := rfl; omega)).symm
                    unfold bitOf at H
                    rw [hz] at H
                    by_cases c2 : Go.bits .and .i64 (a2 / 2 ^ m2.toNat) 1 = 1
                    · rw [if_pos c2] at H
                      have b0 : ((Go.bits .and .i64 (a2 / 2 ^ m2.toNat) 1) == 1) = true := beq_iff_eq.mpr c2
                      have H' := Aside0.mk H
                      clear H c1 hu2 hz
                      go_wp2_with (fail)
                      go_roundg k3
                      case measure => omega
                      case rel => exact ⟨m2 + 1, rfl, H', ⟨by omega, by have := of_decide_eq_true d1; omega⟩, rfl⟩
                    · rw [if_neg c2] at H
                      have b0 : ((Go.bits .and .i64 (a2 / 2 ^ m2.toNat) 1) == 1) = false := beq_eq_false_iff_ne.mpr c2
                      obtain rfl : m2 = q := Option.some.inj H
                      clear H c1 hu2 hz
                      have hwz : wrap64 (m2 - m) = m2 - m := by unfold wrap64; omega
                      go_wp2_with (first | ((with_reducible refine gate_builtin (b := .append) (xs := #[.tmp 49, .tmp 51]) rfl ?_); refine Kd.R_append k23 (w0 := w) w.heap.size rfl (.tmp 49) (.tmp 51) 28 23 (.agg #[(.int .i64 0), (.int .i64 0), (.int .i64 0), (.int .i64 0)]) 32 rfl Try.underlying28 info23 rfl (by decide) (by omega) v7 out (⟨a0, m, a1, m2 - m⟩ : S23) [.int .i64 a0, .int .i64 m, .int .i64 a1, .int .i64 (m2 - m)] (fun _ => True) (fun _ => False) rfl (congrArg (fun b_ => Value.slice (some ⟨b_, 0, none⟩) 1 1) (show wr.heap.size + 1 = (wr.alloc (.cells #[.int .i64 a0, .int .i64 m, .int .i64 a1, .int .i64 (m2 - m)] 23 (0, 0))).heap.size by simp)) ?aP (fun _ hk => hk.elim) ?aF ?aO ?aB ?aS ?aL ?_; (case aP => exact k23_mkM _ _ _ (⟨a0, m, a1, m2 - m⟩ : S23)); (case aB => exact (by repeat (first | (with_reducible first | exact HB.out | apply below_alloc | apply pw_below_drewN | apply below_drew1) | exact HB.out))); (case aF => exact (fun _ _ => trivial)); (case aO => exact (by (with_reducible repeat (first | apply Kd.R_alloc | apply Kd.R_drewN | apply Kd.R_drew)); exact HO.out)); (case aS => exact (below_size (by repeat (first | (with_reducible first | exact HB.out | apply below_alloc | apply pw_below_drewN | apply below_drew1) | exact HB.out)))); (case aL => omega); intro v165 w31 ho hb hg hat; have n0_ := Aside0.mk (hb); have n1_ := Aside0.mk (ho); clear HB; clear HO; have HB := n0_; have HO166 := n1_; clear n0_ n1_; clear ho hb hg hat))
                      go_step3
                      refine ⟨rfl, k, Nat.lt_succ_self k, ⟨out ++ [(⟨a0, m, a1, m2 - m⟩ : S23)], m2, _, _, _, _, _, _, _, _, _, _, _, _, _, _, _, _, _, _, _, _, _, _, _, _, _, _, _, _, _, _, _, _, _, _, _, _, _, _, _, _, _, _, _, _, _, _, _, _, rfl, by omega, by omega, by simp; omega, HL3.out, HO166.out, HB.out⟩⟩
                  · rw [if_neg c1] at H
                    have d1 : decide (m2 < 32) = false := decide_eq_false c1
                    obtain rfl : m2 = q := Option.some.inj H
                    clear H c1 hu2
                    have hwz : wrap64 (m2 - m) = m2 - m := by unfold wrap64; omega
                    go_wp2_with (first | ((with_reducible refine gate_builtin (b := .append) (xs := #[.tmp 49, .tmp 51]) rfl ?_); refine Kd.R_append k23 (w0 := w) w.heap.size rfl (.tmp 49) (.tmp 51) 28 23 (.agg #[(.int .i64 0), (.int .i64 0), (.int .i64 0), (.int .i64 0)]) 32 rfl Try.underlying28 info23 rfl (by decide) (by omega) v7 out (⟨a0, m, a1, m2 - m⟩ : S23) [.int .i64 a0, .int .i64 m, .int .i64 a1, .int .i64 (m2 - m)] (fun _ => True) (fun _ => False) rfl (congrArg (fun b_ => Value.slice (some ⟨b_, 0, none⟩) 1 1) (show wr.heap.size + 1 = (wr.alloc (.cells #[.int .i64 a0, .int .i64 m, .int .i64 a1, .int .i64 (m2 - m)] 23 (0, 0))).heap.size by simp)) ?aP (fun _ hk => hk.elim) ?aF ?aO ?aB ?aS ?aL ?_; (case aP => exact k23_mkM _ _ _ (⟨a0, m, a1, m2 - m⟩ : S23)); (case aB => exact (by repeat (first | (with_reducible first | exact HB.out | apply below_alloc | apply pw_below_drewN | apply below_drew1) | exact HB.out))); (case aF => exact (fun _ _ => trivial)); (case aO => exact (by (with_reducible repeat (first | apply Kd.R_alloc | apply Kd.R_drewN | apply Kd.R_drew)); exact HO.out)); (case aS => exact (below_size (by repeat (first | (with_reducible first | exact HB.out | apply below_alloc | apply pw_below_drewN | apply below_drew1) | exact HB.out)))); (case aL => omega); intro v165 w31 ho hb hg hat; have n0_ := Aside0.mk (hb); have n1_ := Aside0.mk (ho); clear HB; clear HO; have HB := n0_; have HO166 := n1_; clear n0_ n1_; clear ho hb hg hat))
                    go_step3
                    refine ⟨rfl, k, Nat.lt_succ_self k, ⟨out ++ [(⟨a0, m, a1, m2 - m⟩ : S23)], m2, _, _, _, _, _, _, _, _, _, _, _, _, _, _, _, _, _, _, _, _, _, _, _, _, _, _, _, _, _, _, _, _, _, _, _, _, _, _, _, _, _, _, _, _, _, _, _, _, rfl, by omega, by omega, by simp; omega, HL3.out, HO166.out, HB.out⟩⟩
          · rw [if_neg c1] at H
            have d1 : decide (m < 32) = false := decide_eq_false c1
            obtain rfl : m = p := Option.some.inj H
            obtain rfl : m = 32 := by omega
            have HL2 := HL.out
            rw [if_pos rfl] at HL2
            obtain rfl := Option.some.inj HL2
            clear H c1 hu HL HL2 HP
            go_wp2_with (fail)
            simp only [Exit.jump]
            go_ret
            exact ⟨_, rfl, HO.out, HB.out⟩
  · intro HR
    cases g with
    | false =>
      obtain rfl : r = [] := by simpa using H0.out.symm
      go_wp2_with (go_at_call 9; refine (plane_Good.calls a0 0 a1 1 false _ HG.out).mono ?_; rintro e w1 ⟨rfl, hb⟩)
      simp only [Exit.jump]
      go_ret
      exact ⟨_, rfl, Kd.R_nil _ _ _ _ _, hb⟩
    | true =>
      have H1 : plane_Rows.l 40 a0 a1 a2 [] 0 = some r := by simpa using H0.out
      clear H0
      go_wp2_with (go_at_call 9; refine (plane_Good.calls a0 0 a1 1 true _ HG.out).mono ?_; rintro e w1 ⟨rfl, hb⟩)
      go_step3
      go_step
      rename_i aK
      exact aK _ _ <| HR 40 _ _ ⟨[], 0, _, _, _, _, _, _, _, _, _, _, _, _, _, _, _, _, _, _, _, _, _, _, _, _, _, _, _, _, _, _, _, _, _, _, _, _, _, _, _, _, _, _, _, _, _, _, _, _, rfl, by omega, by omega, by simp, H1, Kd.R_nil _ _ _ _ _, hb⟩
end Go.Proofs.Ytcocaapihhgckaa.PAll
