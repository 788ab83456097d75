/- The legs of any draws, in all four ways, are what the document says: for all lists that a call may be handed; no conditions. -/
import Derived.Test.YtlccomoiajnkmaaBDrawLegs3
import Derived.Deep.Slices
import Derived.Deep.Fields
import Derived.ChangeSame
import Derived.ChangeArms
import Derived.OpenShut
import Derived.Test.YtlccomoiajnkmaaRows
import Derived.ProofKit
import Derived.ShutString
import Derived.ChangeOld
import Derived.Carry
section
set_option linter.unusedVariables false
set_option linter.unusedSimpArgs false
namespace Go.Proofs.Ytlccomoiajnkmaa.Pure
open Go Go.RowKit Go.Proofs.Ytlccomoiajnkmaa.PAll Go.Proofs.YtlccomoiajnkmaaW.PrintWords Go.Proofs.YtlccomoiajnkmaaW.PrintLast

theorem awake11 : Ev (fun k => prebendlaw11_awake.f k) true := Ev.of prebendlaw11_awake.mono (k := 60) (by decide +kernel)

/-! ### legs -/
def leg1 (fr tt rest : Int) (x y : S37) : List S64 := if x.f1 = 0 then [] else (⟨wrap64 (fr + wrap64 (3 * x.f0)), wrap64 (-x.f1)⟩ : S64) :: ((if y.f1 = 0 then [] else [(⟨wrap64 (tt + wrap64 (3 * x.f0)), y.f1⟩ : S64)]) ++ (if wrap64 (x.f1 - y.f1) = 0 then [] else [(⟨wrap64 (rest + wrap64 (3 * x.f0)), wrap64 (x.f1 - y.f1)⟩ : S64)]))
def legsS (fr tt rest : Int) : List S37 → List S37 → List S64
  | x :: xs, y :: ys => leg1 fr tt rest x y ++ legsS fr tt rest xs ys
  | _, _ => []
theorem leg1_len (fr tt rest : Int) (x y : S37) : (leg1 fr tt rest x y).length ≤ 3 := by
  unfold leg1
  split
  · simp
  · split <;> split <;> simp
theorem legsS_len (fr tt rest : Int) : ∀ xs ys : List S37, (legsS fr tt rest xs ys).length ≤ 3 * xs.length
  | [], ys => by simp [legsS]
  | x :: xs, [] => by simp [legsS]
  | x :: xs, y :: ys => by
    simp only [legsS, List.length_append, List.length_cons]
    have := leg1_len fr tt rest x y
    have := legsS_len fr tt rest xs ys
    omega
theorem rd37_mid (pre post : List S37) (x : S37) (i : Int) (hi : i = pre.length) : rd_T37 (pre ++ x :: post) i = x := by
  subst hi
  simp [rd_T37]
theorem rlegs_l0 (fr tt rest : Int) (d c : List S37) (hl : d.length ≤ 1000) : ∀ (xs ys pre pre2 : List S37) (acc : List S64), d = pre ++ xs → c = pre2 ++ ys → pre.length = pre2.length → xs.length = ys.length → acc.length + 3 * xs.length ≤ 1000000 →
    Ev (fun k => prebendref11_Legs.l0 k d c fr tt rest acc (pre.length : Int)) (acc ++ legsS fr tt rest xs ys)
  | [], ys, pre, pre2, acc, hd, hc, hp, hxy, hb => by
    refine Ev.step (f := fun _ => some acc) (fun k => ?_) (by simpa [legsS] using Ev.now acc)
    simp only [prebendref11_Legs.l0]
    rw [if_neg (by rw [hd]; simp)]
  | x :: xs, [], pre, pre2, acc, hd, hc, hp, hxy, hb => by simp at hxy
  | x :: xs, y :: ys, pre, pre2, acc, hd, hc, hp, hxy, hb => by
    have hdl : d.length = pre.length + xs.length + 1 := by rw [hd]; simp; omega
    have hcl : c.length = pre.length + ys.length + 1 := by rw [hc]; simp; omega
    have hx : rd_T37 d (pre.length : Int) = x := by rw [hd]; exact rd37_mid _ _ _ _ rfl
    have hy : rd_T37 c (pre.length : Int) = y := by rw [hc]; exact rd37_mid _ _ _ _ (by omega)
    have hw : wrap64 ((pre.length : Int) + 1) = (((pre ++ [x]).length : Nat) : Int) := by simp; unfold wrap64; omega
    have h1 := leg1_len fr tt rest x y
    simp only [List.length_cons] at hxy hb
    have ih := rlegs_l0 fr tt rest d c hl xs ys (pre ++ [x]) (pre2 ++ [y]) (acc ++ leg1 fr tt rest x y) (by rw [hd]; simp) (by rw [hc]; simp) (by simp; omega) (by omega) (by simp only [List.length_append]; omega)
    rw [List.append_assoc] at ih
    refine Ev.step (fun k => ?_) ih
    simp only [prebendref11_Legs.l0]
    rw [if_pos (by omega), if_pos (by omega), hx, hy, hw]
    by_cases c1 : x.f1 = 0
    · rw [if_pos c1]
      have : leg1 fr tt rest x y = [] := by unfold leg1; rw [if_pos c1]
      rw [this, List.append_nil]
    · rw [if_neg c1, if_pos (by omega), if_pos (by omega), Option.bind_some]
      by_cases c2 : y.f1 = 0
      · rw [if_pos c2]
        by_cases c3 : wrap64 (x.f1 - y.f1) = 0
        · rw [if_pos c3]
          have : leg1 fr tt rest x y = [⟨wrap64 (fr + wrap64 (3 * x.f0)), wrap64 (-x.f1)⟩] := by unfold leg1; rw [if_neg c1, if_pos c2, if_pos c3]; rfl
          rw [this]
        · rw [if_neg c3, if_pos (by simp; omega)]
          have : leg1 fr tt rest x y = [⟨wrap64 (fr + wrap64 (3 * x.f0)), wrap64 (-x.f1)⟩, ⟨wrap64 (rest + wrap64 (3 * x.f0)), wrap64 (x.f1 - y.f1)⟩] := by unfold leg1; rw [if_neg c1, if_pos c2, if_neg c3]; rfl
          rw [this]; simp
      · rw [if_neg c2, if_pos (by simp; omega), Option.bind_some]
        by_cases c3 : wrap64 (x.f1 - y.f1) = 0
        · rw [if_pos c3]
          have : leg1 fr tt rest x y = [⟨wrap64 (fr + wrap64 (3 * x.f0)), wrap64 (-x.f1)⟩, ⟨wrap64 (tt + wrap64 (3 * x.f0)), y.f1⟩] := by unfold leg1; rw [if_neg c1, if_neg c2, if_pos c3]; rfl
          rw [this]; simp
        · rw [if_neg c3, if_pos (by simp; omega)]
          have : leg1 fr tt rest x y = [⟨wrap64 (fr + wrap64 (3 * x.f0)), wrap64 (-x.f1)⟩, ⟨wrap64 (tt + wrap64 (3 * x.f0)), y.f1⟩, ⟨wrap64 (rest + wrap64 (3 * x.f0)), wrap64 (x.f1 - y.f1)⟩] := by unfold leg1; rw [if_neg c1, if_neg c2, if_neg c3]; rfl
          rw [this]; simp
theorem rlegs_f (fr tt rest : Int) (d c : List S37) (hl : d.length ≤ 1000) (hc : d.length = c.length) : Ev (fun k => prebendref11_Legs.f k d c fr tt rest) (legsS fr tt rest d c) := by
  have := rlegs_l0 fr tt rest d c hl d c [] [] [] rfl rfl rfl hc (by simp; omega)
  simpa [prebendref11_Legs.f] using this
theorem wz : wrap64 0 = 0 := by unfold wrap64; omega
theorem move_l0 (fr tt rest : Int) (d : List S37) (hl : d.length ≤ 1000) : ∀ (xs pre : List S37) (acc : List S64), d = pre ++ xs → acc.length + 3 * xs.length ≤ 1000000 →
    Ev (fun k => draw_move.l0 k fr tt acc d (d.length : Int) (pre.length : Int)) (acc ++ legsS fr tt rest xs xs)
  | [], pre, acc, hd, hb => by
    refine Ev.step (f := fun _ => some acc) (fun k => ?_) (by simpa [legsS] using Ev.now acc)
    simp only [draw_move.l0]
    rw [if_neg (by rw [hd]; simp)]
    simp [slices_Clip_Leg.f]
  | x :: xs, pre, acc, hd, hb => by
    have hdl : d.length = pre.length + xs.length + 1 := by rw [hd]; simp; omega
    have hx : rd_T37 d (pre.length : Int) = x := by rw [hd]; exact rd37_mid _ _ _ _ rfl
    have hw : wrap64 ((pre.length : Int) + 1) = (((pre ++ [x]).length : Nat) : Int) := by simp; unfold wrap64; omega
    have h1 := leg1_len fr tt rest x x
    simp only [List.length_cons] at hb
    have ih := move_l0 fr tt rest d hl xs (pre ++ [x]) (acc ++ leg1 fr tt rest x x) (by rw [hd]; simp) (by simp only [List.length_append]; omega)
    rw [List.append_assoc] at ih
    refine Ev.step (fun k => ?_) ih
    simp only [draw_move.l0]
    rw [if_pos (by omega), if_pos (by omega), if_pos (by omega), hx, hw]
    by_cases c1 : x.f1 = 0
    · rw [if_pos c1]
      have : leg1 fr tt rest x x = [] := by unfold leg1; rw [if_pos c1]
      rw [this, List.append_nil]
    · rw [if_neg c1]
      simp only [draw_acct.f, Option.bind_some]
      rw [if_pos (by simp; omega)]
      have : leg1 fr tt rest x x = [⟨wrap64 (wrap64 (3 * x.f0) + fr), wrap64 (-x.f1)⟩, ⟨wrap64 (wrap64 (3 * x.f0) + tt), x.f1⟩] := by
        unfold leg1
        rw [if_neg c1, if_neg c1, if_pos (by rw [Int.sub_self]; exact wz), Int.add_comm fr, Int.add_comm tt]; rfl
      rw [this]
theorem move_f (fr tt rest : Int) (d : List S37) (hl : d.length ≤ 1000) : Ev (fun k => draw_move.f k d fr tt) (legsS fr tt rest d d) := by
  have := move_l0 fr tt rest d hl d [] [] rfl (by simp; omega)
  simpa [draw_move.f] using this
theorem spend1_f (a kd n : Int) (out : List S64) (hb : out.length < 1000000) : draw_Spend_1.f a kd n out = some (out ++ (if n = 0 then [] else [(⟨wrap64 (kd + wrap64 (3 * a)), n⟩ : S64)])) := by
  unfold draw_Spend_1.f
  by_cases c : n = 0
  · rw [if_pos c, if_pos c, List.append_nil]
  · rw [if_neg c, if_neg c]
    simp only [draw_acct.f, Option.bind_some]
    rw [if_pos hb, Int.add_comm kd]
theorem spendL_l0 (d c : List S37) (hl : d.length ≤ 1000) (hn : ∀ x ∈ d, -1152921504606846976 ≤ x.f1 ∧ x.f1 ≤ 1152921504606846976) : ∀ (xs ys pre pre2 : List S37) (acc : List S64), d = pre ++ xs → c = pre2 ++ ys → pre.length = pre2.length → xs.length = ys.length → acc.length + 3 * xs.length ≤ 100000 →
    Ev (fun k => draw_Spend.l0 k d c acc (pre.length : Int)) (acc ++ legsS 2 3 1 xs ys)
  | [], ys, pre, pre2, acc, hd, hc, hp, hxy, hb => by
    refine Ev.step (f := fun _ => some acc) (fun k => ?_) (by simpa [legsS] using Ev.now acc)
    simp only [draw_Spend.l0]
    rw [if_neg (by rw [hd]; simp)]
  | x :: xs, [], pre, pre2, acc, hd, hc, hp, hxy, hb => by simp at hxy
  | x :: xs, y :: ys, pre, pre2, acc, hd, hc, hp, hxy, hb => by
    have hdl : d.length = pre.length + xs.length + 1 := by rw [hd]; simp; omega
    have hx : rd_T37 d (pre.length : Int) = x := by rw [hd]; exact rd37_mid _ _ _ _ rfl
    have hy : rd_T37 c (pre.length : Int) = y := by rw [hc]; exact rd37_mid _ _ _ _ (by omega)
    have hw : wrap64 ((pre.length : Int) + 1) = (((pre ++ [x]).length : Nat) : Int) := by simp; unfold wrap64; omega
    have h1 := leg1_len 2 3 1 x y
    have hxn := hn x (by rw [hd]; simp)
    simp only [List.length_cons] at hxy hb
    have ih := spendL_l0 d c hl hn xs ys (pre ++ [x]) (pre2 ++ [y]) (acc ++ leg1 2 3 1 x y) (by rw [hd]; simp) (by rw [hc]; simp) (by simp; omega) (by omega) (by simp only [List.length_append]; omega)
    rw [List.append_assoc] at ih
    refine Ev.step (fun k => ?_) ih
    simp only [draw_Spend.l0]
    rw [if_pos (by omega), hx, hy, hw]
    by_cases c1 : x.f1 = 0
    · rw [if_pos c1]
      have : leg1 2 3 1 x y = [] := by unfold leg1; rw [if_pos c1]
      rw [this, List.append_nil]
    · rw [if_neg c1, spend1_f _ _ _ _ (by omega), Option.bind_some, spend1_f _ _ _ _ (by rw [List.length_append]; split <;> simp <;> omega), Option.bind_some, spend1_f _ _ _ _ (by rw [List.length_append, List.length_append]; split <;> split <;> simp <;> omega), Option.bind_some]
      rw [if_neg (by unfold wrap64; omega)]
      unfold leg1
      rw [if_neg c1]
      simp [List.append_assoc]
theorem spendL_f (d c : List S37) (hl : d.length ≤ 1000) (hn : ∀ x ∈ d, -1152921504606846976 ≤ x.f1 ∧ x.f1 ≤ 1152921504606846976) (hc : d.length = c.length) : Ev (fun k => draw_Spend.f k d c) (legsS 2 3 1 d c) := by
  have := spendL_l0 d c hl hn d c [] [] [] rfl rfl rfl hc (by simp; omega)
  refine Ev.congr (fun k => ?_) this
  unfold draw_Spend.f
  rw [if_pos (by omega), if_pos (by omega)]; rfl
theorem same_refl (a : List S64) (hl : a.length < 1000000) : ∀ (m i : Nat), i + m = a.length → Ev (fun k => prebendref11_Same.l0 k a a (i : Int)) true
  | 0, i, him => Ev.step (f := fun _ => some true) (fun k => by simp only [prebendref11_Same.l0]; rw [if_neg (by omega)]) (Ev.now _)
  | m + 1, i, him => by
    refine Ev.step (fun k => ?_) (same_refl a hl m (i + 1) (by omega))
    simp only [prebendref11_Same.l0, beq_self_eq_true, Bool.not_true, Bool.or_self, Bool.false_eq_true, if_false]
    rw [if_pos (by omega), if_pos (by omega), if_pos (by omega), show wrap64 ((i : Int) + 1) = ((i + 1 : Nat) : Int) by unfold wrap64; omega]
theorem same_f (a : List S64) (hl : a.length < 1000000) : Ev (fun k => prebendref11_Same.f k a a) true := by
  refine Ev.congr (fun k => ?_) (same_refl a hl a.length 0 (by omega))
  unfold prebendref11_Same.f
  rw [if_pos rfl]; rfl
def Sane (d : List S37) : Prop := d.length ≤ 20 ∧ ∀ x ∈ d, -1152921504606846976 ≤ x.f1 ∧ x.f1 ≤ 1152921504606846976
theorem sane_l0 (l : List S37) : ∀ (m : Nat) (i : Nat) (acc : List S37), i + m = 20 → i ≤ l.length → acc.length ≤ i → (∀ x ∈ acc, -1152921504606846976 ≤ x.f1 ∧ x.f1 ≤ 1152921504606846976) → ∃ d, Ev (fun k => prebendlaw11_sane.l0 k l acc (i : Int)) d ∧ Sane d
  | m, i, acc, him, hil, hal, hx => by
    by_cases c : i < l.length ∧ i < 20
    · obtain ⟨m, rfl⟩ : ∃ n, m = n + 1 := ⟨m - 1, by omega⟩
      have hw : wrap64 ((i : Int) + 1) = ((i + 1 : Nat) : Int) := by unfold wrap64; omega
      have st : ∀ k, prebendlaw11_sane.l0 (k + 1) l acc (i : Int) = prebendlaw11_sane.j1 k l acc (i : Int) true := fun k => by
        simp only [prebendlaw11_sane.l0]; rw [if_pos (by omega), decide_eq_true (by omega)]
      have skip := sane_l0 l m (i + 1) acc (by omega) (by omega) (by omega) hx
      by_cases c1 : (rd_T37 l (i : Int)).f0 ≥ 0 ∧ (rd_T37 l (i : Int)).f0 < 16 ∧ (rd_T37 l (i : Int)).f1 ≥ -1152921504606846976 ∧ (rd_T37 l (i : Int)).f1 ≤ 1152921504606846976
      · obtain ⟨d, h1, h2⟩ := sane_l0 l m (i + 1) (acc ++ [⟨(rd_T37 l (i : Int)).f0, (rd_T37 l (i : Int)).f1⟩]) (by omega) (by omega) (by simp; omega) (by
          intro x hx'
          rcases List.mem_append.1 hx' with h | h
          · exact hx x h
          · obtain rfl : x = _ := by simpa using h
            exact ⟨c1.2.2.1, c1.2.2.2⟩)
        refine ⟨d, Ev.step st (Ev.step (fun k => ?_) h1), h2⟩
        simp only [prebendlaw11_sane.j1, if_true]
        rw [if_pos (by omega), if_pos (by omega), if_pos c1.1, if_pos c1.2.1, if_pos c1.2.2.1, if_pos c1.2.2.2, if_pos (by omega), hw]
      · obtain ⟨d, h1, h2⟩ := skip
        refine ⟨d, Ev.step st (Ev.step (fun k => ?_) h1), h2⟩
        simp only [prebendlaw11_sane.j1, if_true]
        rw [if_pos (by omega), if_pos (by omega), hw]
        by_cases g1 : (rd_T37 l (i : Int)).f0 ≥ 0
        · rw [if_pos g1]
          by_cases g2 : (rd_T37 l (i : Int)).f0 < 16
          · rw [if_pos g2]
            by_cases g3 : (rd_T37 l (i : Int)).f1 ≥ -1152921504606846976
            · rw [if_pos g3, if_neg (fun g4 => c1 ⟨g1, g2, g3, g4⟩)]
            · rw [if_neg g3]
          · rw [if_neg g2]
        · rw [if_neg g1]
    · refine ⟨acc, ?_, by omega, hx⟩
      refine Ev.step (f := fun k => prebendlaw11_sane.j1 k l acc (i : Int) false) (fun k => ?_) (Ev.step (f := fun _ => some acc) (fun k => by simp [prebendlaw11_sane.j1]) (Ev.now _))
      simp only [prebendlaw11_sane.l0]
      by_cases g : (i : Int) < (l.length : Int)
      · rw [if_pos g, decide_eq_false (by omega)]
      · rw [if_neg g]
theorem sane_f (l : List S37) : ∃ d, Ev (fun k => prebendlaw11_sane.f k l) d ∧ Sane d := sane_l0 l 20 0 [] (by omega) (by omega) (by simp) (by simp)

theorem legs_j1 (d c : List S37) (hd : Sane d) (hc : Sane c) : Ev (fun k => prebendlaw11_DrawLegs.j1 k d c) true := by
  have hl := hd.1
  have g : ∀ fr tt rest, (legsS fr tt rest d d).length < 1000000 := fun fr tt rest => by have := legsS_len fr tt rest d d; omega
  refine Ev.step (f := fun k => (draw_Lien.f k d).bind fun t305 => ((prebendref11_Legs.f k d d 1 2 0).bind fun t308 => ((prebendref11_Same.f k t305 t308).bind fun t311 => (if t311 = true then ((draw_Free.f k d).bind fun t312 => ((prebendref11_Legs.f k d d 2 1 0).bind fun t315 => ((prebendref11_Same.f k t312 t315).bind fun t318 => (if t318 = true then ((draw_Back.f k d).bind fun t319 => ((prebendref11_Legs.f k d d 3 1 0).bind fun t322 => ((prebendref11_Same.f k t319 t322).bind fun t325 => (prebendlaw11_DrawLegs.j2 k d c (!t325))))) else (prebendlaw11_DrawLegs.j2 k d c true))))) else (prebendlaw11_DrawLegs.j2 k d c true))))) (fun k => by simp only [prebendlaw11_DrawLegs.j1]) ?_
  have m1 : Ev (fun k => draw_Lien.f k d) (legsS 1 2 0 d d) := by unfold draw_Lien.f; exact Ev.bind (move_f 1 2 0 d (by omega)) (Ev.now _)
  have m2 : Ev (fun k => draw_Free.f k d) (legsS 2 1 0 d d) := by unfold draw_Free.f; exact Ev.bind (move_f 2 1 0 d (by omega)) (Ev.now _)
  have m3 : Ev (fun k => draw_Back.f k d) (legsS 3 1 0 d d) := by unfold draw_Back.f; exact Ev.bind (move_f 3 1 0 d (by omega)) (Ev.now _)
  refine Ev.bind m1 (Ev.bind (rlegs_f 1 2 0 d d (by omega) rfl) (Ev.bind (same_f _ (g 1 2 0)) (Ev.congr (fun k => if_pos rfl) ?_)))
  refine Ev.bind m2 (Ev.bind (rlegs_f 2 1 0 d d (by omega) rfl) (Ev.bind (same_f _ (g 2 1 0)) (Ev.congr (fun k => if_pos rfl) ?_)))
  refine Ev.bind m3 (Ev.bind (rlegs_f 3 1 0 d d (by omega) rfl) (Ev.bind (same_f _ (g 3 1 0)) ?_))
  by_cases e : (c.length : Int) = (d.length : Int)
  · refine Ev.step (f := fun k => (prebendlaw11_awake.f k).bind fun t330 => (if t330 = true then ((draw_Spend.f k d c).bind fun t331 => ((prebendref11_Legs.f k d c 2 3 1).bind fun t334 => ((prebendref11_Same.f k t331 t334).bind fun t337 => (some t337)))) else (some false))) (fun k => by simp only [prebendlaw11_DrawLegs.j2, Bool.not_true, Bool.false_eq_true, if_false]; rw [if_pos e]) ?_
    refine Ev.bind awake11 (Ev.congr (fun k => if_pos rfl) ?_)
    refine Ev.bind (spendL_f d c (by omega) hd.2 (by omega)) (Ev.bind (rlegs_f 2 3 1 d c (by omega) (by omega)) (Ev.bind (same_f _ (by have := legsS_len 2 3 1 d c; omega)) (Ev.now _)))
  · refine Ev.step (f := fun k => (prebendlaw11_awake.f k).bind fun t326 => (if t326 = true then ((draw_Spend.f k d c).bind fun t327 => (some ((t327.length : Int) == 0))) else (some false))) (fun k => by simp only [prebendlaw11_DrawLegs.j2, Bool.not_true, Bool.false_eq_true, if_false]; rw [if_neg e]) ?_
    refine Ev.bind awake11 (Ev.congr (fun k => if_pos rfl) ?_)
    refine Ev.bind (a := []) ⟨0, fun k _ => ?_⟩ (Ev.now _)
    unfold draw_Spend.f
    exact if_neg (by omega)
theorem legs_l0 (d : List S37) (hd : Sane d) : ∀ (m i : Nat) (c : List S37), i + m = 20 → Sane c → Ev (fun k => prebendlaw11_DrawLegs.l0 k d c (i : Int)) true
  | m, i, c, him, hc => by
    by_cases g : i < c.length ∧ i < d.length
    · have := hc.1
      obtain ⟨m, rfl⟩ : ∃ n, m = n + 1 := ⟨m - 1, by omega⟩
      have hm : (rd_T37 c (i : Int)) ∈ c := by simp [rd_T37, List.getD_eq_getElem?_getD, g.1]
      refine Ev.step (fun k => ?_) (legs_l0 d hd m (i + 1) (c.set i ⟨(rd_T37 d (i : Int)).f0, (rd_T37 c (i : Int)).f1⟩) (by omega) ⟨by simp; omega, fun x hx => ?_⟩)
      · simp only [prebendlaw11_DrawLegs.l0]
        rw [if_pos (by omega), if_pos (by omega), if_pos (by omega), show wrap64 ((i : Int) + 1) = ((i + 1 : Nat) : Int) by unfold wrap64; omega, show ((i : Int)).toNat = i by omega]
      · rcases List.mem_or_eq_of_mem_set hx with h | h
        · exact hc.2 x h
        · have q := hc.2 _ hm
          subst h; exact q
    · refine Ev.step (fun k => ?_) (legs_j1 d c hd hc)
      simp only [prebendlaw11_DrawLegs.l0]
      by_cases g1 : (i : Int) < (c.length : Int)
      · rw [if_pos g1, if_neg (by omega)]
      · rw [if_neg g1]
theorem DrawLegs : prebendlaw11_DrawLegs.Pure := by
  intro l0 l1 _ _
  obtain ⟨d, h1, hd⟩ := sane_f l0
  obtain ⟨c, h2, hc⟩ := sane_f l1
  refine Ev.rounds ?_
  unfold prebendlaw11_DrawLegs.f
  exact Ev.bind h1 (Ev.bind h2 (legs_l0 d hd 20 0 c (by omega) hc))

end Go.Proofs.Ytlccomoiajnkmaa.Pure
end
section
namespace Go.Proofs.Ytlccomoiajnkmaa.Rd
open Go.ChangeShapes Go.WideShapes Go.Deep Go.RowKit Go.Proofs.YtlccomoiajnkmaaW.PrintWords
set_option linter.unusedVariables false
/-- Cells that are read as a value of type T stand for a plain value x of kind d, of which 'good' holds. -/
def Rds {α : Type} (P : Program) (d : Kd α) (T : TypeId) (good : α → Prop) : Prop :=
  ∀ (H : Type) (enc : TypeId × Value → H) (w : World) (base : Nat) (spare : Nat → Bool) (held : Bool) (n : Nat) (cs : List Value) (y : DataW H × List MemPlace),
    DataW.trod enc P w base spare held n T cs = some y → ∃ x, d.K w x cs ∧ good x
theorem rds_int {P : Program} {T : TypeId} {k : IntKind} (ht : P.underlying T = some (.int k)) : Rds P (Kd.int k) T (fun x => (Lit.int k x).wf = true) := by
  intro H enc w base spare held n cs y h
  obtain ⟨m, rfl, _, hw⟩ := DataW.trod_int ht h
  exact ⟨m, rfl, hw⟩
theorem rds_bool {P : Program} {T : TypeId} (ht : P.underlying T = some .bool) : Rds P Kd.bool T (fun _ => True) := by
  intro H enc w base spare held n cs y h
  obtain ⟨m, rfl, _⟩ := DataW.trod_bool ht h
  exact ⟨m, rfl, trivial⟩
theorem rds_string {P : Program} {T : TypeId} (ht : P.underlying T = some .string) : Rds P Kd.string T (fun s => s.size ≤ maxLen) := by
  intro H enc w base spare held n cs y h
  obtain ⟨m, rfl, _, hw⟩ := DataW.trod_string ht h
  exact ⟨m, rfl, hw⟩
theorem rds_slice {α : Type} {P : Program} {d : Kd α} {T e : TypeId} {good : α → Prop} (ht : P.underlying T = some (.slice e)) (hc : P.cellsOf e = d.sz) (hr : Rds P d e good) :
    Rds P (Kd.slice e d) T (fun xs => xs.length ≤ maxLen ∧ ∀ x ∈ xs, good x) := by
  intro H enc w base spare held n cs y h
  rcases open_slice ht h with ⟨rfl, _⟩ | ⟨a, len, cap, m, n', D, Pl, rfl, hb, hl, hm, hmm, _, hi⟩
  · exact ⟨[], ⟨none, 0, rfl, Nat.le_refl _, rfl, by simp, fun h0 => absurd h0 (by simp)⟩, by simp, by simp⟩
  · have hlm : len ≤ m := by rw [hmm]; split <;> omega
    have step : ∀ l, l ≤ len → ∃ xs : List α, xs.length = l ∧ (∀ x ∈ xs, good x) ∧ ∀ j p, xs[j]? = some p → ∃ c, w.cells? base (a.add (j * d.sz)) d.sz = some c ∧ d.K w p c := by
      intro l
      induction l with
      | zero => intro _; exact ⟨[], rfl, by simp, by simp⟩
      | succ l ih =>
        intro hl1
        obtain ⟨xs, hx, hg, hj⟩ := ih (by omega)
        obtain ⟨c, h1, h2⟩ := hi l (by omega)
        obtain ⟨x, k, g⟩ := hr _ _ _ _ _ _ _ _ _ h2
        rw [hc] at h1
        refine ⟨xs ++ [x], by simp [hx], ?_, ?_⟩
        · intro z hz
          rcases List.mem_append.1 hz with hz | hz
          · exact hg z hz
          · rw [List.mem_singleton.1 hz]; exact g
        · intro j p hp
          rcases Nat.lt_or_ge j xs.length with hlt | hge
          · rw [List.getElem?_append_left hlt] at hp; exact hj j p hp
          · have hjl : j = l := by
              have := (List.getElem?_eq_some_iff.1 hp).1
              rw [List.length_append, List.length_singleton] at this
              omega
            subst hjl
            rw [List.getElem?_append_right hge, hx, Nat.sub_self] at hp
            simp at hp
            subst hp
            exact ⟨c, h1, k⟩
    obtain ⟨xs, hx, hg, hj⟩ := step len (Nat.le_refl _)
    refine ⟨xs, ⟨some a, cap, by rw [hx], by omega, rfl, by rw [hx]; unfold maxLen at hm; omega, fun _ => ⟨a, rfl, fun j p hp => ?_⟩⟩, by rw [hx]; omega, hg⟩
    obtain ⟨c, h1, k⟩ := hj j p hp
    refine ⟨c, d.K_len k, k, fun i u hu => ?_⟩
    obtain ⟨_, hcl, hat⟩ := World.cells?_some h1
    have hil : i < d.sz := by have := (List.getElem?_eq_some_iff.1 hu).1; omega
    rw [← Go.Deep.add_add, hat i hil, hu]
/-- Two kinds in line. -/
theorem pair_mk {α β : Type} {a : Kd α} {b : Kd β} {w : World} {x : α} {y : β} {cs : List Value} {o : Nat} (h1 : a.K w x ((cs.drop o).take a.sz)) (h2 : b.K w y (cs.drop (o + a.sz))) : (Kd.pair a b).K w (x, y) (cs.drop o) :=
  ⟨_, _, by rw [← List.drop_drop]; exact (List.take_append_drop a.sz (cs.drop o)).symm, h1, h2⟩
theorem last_mk {α : Type} {a : Kd α} {w : World} {x : α} {cs : List Value} {o : Nat} (hl : cs.length = o + a.sz) (h1 : a.K w x ((cs.drop o).take a.sz)) : a.K w x (cs.drop o) := by
  rwa [List.take_of_length_le (by rw [List.length_drop]; omega)] at h1
/-- A struct's field. -/
theorem field {H : Type} {enc : TypeId × Value → H} {P : Program} {w : World} {base : Nat} {spare : Nat → Bool} {held : Bool} {n : Nat} {cs : List Value} {fs : Array Field} {xs : List (DataW H × List MemPlace)} (hx : xs.length = fs.size)
    (hf : ∀ (i : Nat) (f : Field), fs[i]? = some f → DataW.trod enc P w base spare held n f.type ((cs.drop f.offset).take (P.cellsOf f.type)) = xs[i]?)
    (i : Nat) (f : Field) (hi : fs[i]? = some f) {α : Type} {d : Kd α} {good : α → Prop} {o T : Nat} (ho : f.offset = o) (hT : f.type = T) (hc : P.cellsOf T = d.sz) (hr : Rds P d T good) : ∃ x, d.K w x ((cs.drop o).take d.sz) ∧ good x := by
  have h := hf i f hi
  have hlt : i < xs.length := by rw [hx]; exact (Array.getElem?_eq_some_iff.1 hi).1
  rw [List.getElem?_eq_getElem hlt, ho, hT, hc] at h
  exact hr _ _ _ _ _ _ _ _ _ h
end Go.Proofs.Ytlccomoiajnkmaa.Rd
end
section
namespace Go.Proofs.Ytlccomoiajnkmaa.drawLegs
open Go.ChangeShapes Go.WideShapes Go.ChangeAt Go.RowKit Go.Proofs.YtlccomoiajnkmaaW.PrintWords Go.Proofs.Ytlccomoiajnkmaa.PAll
open Go.ChangeMaps (open_string shut_string)
set_option linter.unusedVariables false
theorem own : ownKnob Try.prog.godebug = none := by kernel_rfl
theorem laidOut : laidOutB Try.prog = true := by kernel_rfl
theorem rds37 : Rd.Rds Try.prog k37 37 g37 := by
  intro H enc w base spare held n cs y h
  obtain ⟨xs, m, _, _, hlen, hxl, hf⟩ := DataW.trod_struct Try.underlying37 h
  have hl : cs.length = 2 := hlen.trans (by kernel_rfl)
  obtain ⟨x0, h0, g0_⟩ := Rd.field hxl hf 0 _ rfl (d := (Kd.int .i64)) (good := (fun x => (Lit.int .i64 x).wf = true)) (o := 0) (T := 3) rfl rfl (by kernel_rfl) (Rd.rds_int Try.underlying3)
  obtain ⟨x1, h1, g1_⟩ := Rd.field hxl hf 1 _ rfl (d := (Kd.int .i64)) (good := (fun x => (Lit.int .i64 x).wf = true)) (o := 1) (T := 3) rfl rfl (by kernel_rfl) (Rd.rds_int Try.underlying3)
  have hK := (Rd.pair_mk (o := 0) h0 (Rd.last_mk (a := (Kd.int .i64)) (o := 1) hl h1))
  exact ⟨⟨x0, x1⟩, (by rw [List.drop_zero] at hK; exact hK), ⟨g0_, g1_⟩⟩
set_option maxRecDepth 100000 in
theorem lifted (os : Os) (started : os.Started) (H : Type) (enc : TypeId × Value → H) :
    ReturnsInHanded {} Try.checked os 4 .any (Rows.drawLegsSpec.pre6 enc Try.prog Try.f4 Rows.drawLegsRow.domain false) (Rows.drawLegsSpec.post enc Try.prog Try.f4 false true false false) := by
  refine returnsInHanded_of_change_sized (C := Try.checked) own started (by kernel_rfl) Try.func4
    (ChangeSpec.witness6 (enc := enc) (C := Try.checked) false ⟨#[], #[.slice none 0 0, .slice none 0 0], []⟩ 8 (by kernel_rfl) (by kernel_rfl) (by kernel_rfl) (by kernel_rfl)) ?_
  intro W base args ds gs before hval0 hW hcnd hsz0 _
  have hval : ∀ (j : Nat) t v, Try.f4.params[j]? = some t → args[j]? = some v → Value.okWide Try.prog W .any base t v := hval0
  have hW' := hW
  obtain ⟨p, q, hA0, hV, rfl, hfz, hnd⟩ := hW
  have hA : DataW.TrodAll enc Try.prog W 0 (fun _ => true) true Try.f4.params.toList args.toList ds p := hA0
  rw [Try.params4] at hA hval
  obtain ⟨v0, vs0, d0, ds0, p0, q0, hargs, rfl, rfl, h0, r0⟩ := trodAll_cons hA
  obtain ⟨v1, vs1, d1, ds1, p1, q1, rfl, rfl, rfl, h1, r1⟩ := trodAll_cons r0
  obtain ⟨rfl, rfl, rfl⟩ := trodAll_nil r1
  obtain rfl : args = #[v0, v1] := by cases args; simp_all
  obtain ⟨rfl, rfl⟩ := trodVars_none hV
  obtain ⟨a0, len0, cap0, rfl⟩ := okWide_slice Try.underlying26 (hval 0 26 v0 rfl rfl)
  have k0 := h0
  have lt0 : ∀ x ∈ p0, x.block < W.heap.size := by obtain ⟨m, hm⟩ := k0; exact DataW.trod_lt m _ _ _ hm
  obtain ⟨l0, ⟨A0, c0, he0, hl0, hC0⟩, g0_⟩ : ∃ xs, ((Kd.slice 37 k37)).K W xs [.slice a0 len0 cap0] ∧ (fun x => (x.length ≤ maxLen ∧ ∀ y ∈ x, g37 y)) xs := by
    obtain ⟨fuel, hf⟩ := h0
    exact (Rd.rds_slice (P := Try.prog) (T := 26) Try.underlying26 (by kernel_rfl) rds37) _ _ _ _ _ _ _ _ _ hf
  obtain ⟨rfl, rfl, rfl⟩ : a0 = A0 ∧ len0 = l0.length ∧ cap0 = c0 := by simpa using he0
  obtain ⟨a1, len1, cap1, rfl⟩ := okWide_slice Try.underlying26 (hval 1 26 v1 rfl rfl)
  have k1 := h1
  have lt1 : ∀ x ∈ p1, x.block < W.heap.size := by obtain ⟨m, hm⟩ := k1; exact DataW.trod_lt m _ _ _ hm
  obtain ⟨l1, ⟨A1, c1, he1, hl1, hC1⟩, g1_⟩ : ∃ xs, ((Kd.slice 37 k37)).K W xs [.slice a1 len1 cap1] ∧ (fun x => (x.length ≤ maxLen ∧ ∀ y ∈ x, g37 y)) xs := by
    obtain ⟨fuel, hf⟩ := h1
    exact (Rd.rds_slice (P := Try.prog) (T := 26) Try.underlying26 (by kernel_rfl) rds37) _ _ _ _ _ _ _ _ _ hf
  obtain ⟨rfl, rfl, rfl⟩ : a1 = A1 ∧ len1 = l1.length ∧ cap1 = c1 := by simpa using he1
  clear hA0 hval0 hsz0
  refine (PAll.prebendlaw11_DrawLegs.walk Pure.DrawLegs _ _ l0 _ _ l1 W hC0 hl0 hC1 hl1 g0_ g1_).mono fun e W' ⟨he, bel⟩ => ?_
  subst he
  exact ⟨_, rfl, _, _, _, [], _, [], hW', trodAll_mk1 (shut_bool Try.underlying4 _), (trodAll_cons_mk (Below.trod laidOut (by kernel_rfl) (of_decide_eq_true (by kernel_rfl)) k0 bel lt0) (trodAll_cons_mk (Below.trod laidOut (by kernel_rfl) (of_decide_eq_true (by kernel_rfl)) k1 bel lt1) trodAll_mk0)), rfl, bel.frame _, fun h => by cases h⟩
theorem over : Rows.drawLegsRow.holds Try.pinned (OpenSpec.ofChange Rows.drawLegsSpec) :=
  OpenClaim.holds_of_wide 4 Try.f4 rfl rfl rfl rfl rfl rfl rfl ⟨rfl, rfl, rfl, rfl, rfl⟩ rfl rfl rfl rfl rfl (by kernel_rfl) Try.func4 (by kernel_rfl)
    (of_decide_eq_true (by kernel_rfl)) (by unfold Func.isWrapper; first | (rw [if_pos (by decide +kernel)]; kernel_rfl) | (rw [if_neg (by decide +kernel)]; exact ⟨rfl, rfl⟩))
    (fun os started H enc _ => lifted os started H enc)
theorem proved : Rows.DrawLegsSaid := over
#print axioms proved
end Go.Proofs.Ytlccomoiajnkmaa.drawLegs
namespace Go.Proofs.Ytlccomoiajnkmaa
/-- The row, under a short name, for the claim. -/
theorem drawLegs_holds : Rows.DrawLegsSaid := drawLegs.proved
end Go.Proofs.Ytlccomoiajnkmaa
end
