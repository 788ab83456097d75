/- Two boxes moved alike meet just if they did; a box meets itself, and neither the one that begins where it ends, nor the one on the nodes behind it. -/
import Derived.Test.YtcocaapihhgckaaPAllx23
import Derived.Laws.BitsLemmas
set_option linter.unusedVariables false
set_option linter.unusedSimpArgs false
namespace Go.Proofs.Ytcocaapihhgckaa.Pure
open Go Go.RowKit Go.Proofs.Ytcocaapihhgckaa.PAll Go.Proofs.YtcocaapihhgckaaW.PrintWords Go.Proofs.YtcocaapihhgckaaW.PrintLast

/-- What a box must be. -/
def GoodP (t n l m : Int) : Prop := 0 ≤ t ∧ t ≤ 1099511627776 ∧ 1 ≤ l ∧ l ≤ 1048576 ∧ 0 ≤ n ∧ n ≤ 31 ∧ 1 ≤ m ∧ n + m ≤ 32
instance (t n l m : Int) : Decidable (GoodP t n l m) := by unfold GoodP; infer_instance
theorem within_eq (a b c : Int) : plane_within.f a b c = some (decide (b ≤ a ∧ a ≤ c)) := by
  unfold plane_within.f; by_cases h : a ≥ b
  · rw [if_pos h]; congr 1; exact decide_eq_decide.mpr ⟨fun x => ⟨h, x⟩, fun x => x.2⟩
  · rw [if_neg h]; congr 1; symm; exact decide_eq_false (fun x => h x.1)
theorem pick_ite (p : Prop) [Decidable p] (x y : Option Bool) : (if decide p = true then x else y) = if p then x else y := by by_cases h : p <;> simp [h]
theorem Good_eq (t n l m : Int) : plane_Good.f t n l m = some (decide (GoodP t n l m)) := by
  unfold plane_Good.f GoodP
  simp only [within_eq, Option.bind_some, pick_ite]
  by_cases h1 : 0 ≤ t ∧ t ≤ 1099511627776
  · rw [if_pos h1]
    by_cases h2 : 1 ≤ l ∧ l ≤ 1048576
    · rw [if_pos h2]
      by_cases h3 : 0 ≤ n ∧ n ≤ 31
      · rw [if_pos h3]; congr 1; apply decide_eq_decide.mpr
        unfold wrap64; omega
      · rw [if_neg h3]; congr 1; symm; apply decide_eq_false; omega
    · rw [if_neg h2]; congr 1; symm; apply decide_eq_false; omega
  · rw [if_neg h1]; congr 1; symm; apply decide_eq_false; omega
/-- Two boxes that may be, and have something in common. -/
def MeetP (a b c d x y z t : Int) : Prop := GoodP a b c d ∧ GoodP x y z t ∧ a < x + z ∧ x < a + c ∧ b < y + t ∧ y < b + d
instance (a b c d x y z t : Int) : Decidable (MeetP a b c d x y z t) := by unfold MeetP; infer_instance
theorem pick_ite' {α : Type} (p : Prop) [Decidable p] (x y : Option α) : (if decide p = true then x else y) = if p then x else y := by by_cases h : p <;> simp [h]
theorem Meets_eq (a b c d x y z t : Int) : plane_Meets.f a b c d x y z t = some (decide (MeetP a b c d x y z t)) := by
  unfold plane_Meets.f MeetP
  simp only [Good_eq, Option.bind_some, pick_ite]
  by_cases h1 : GoodP a b c d
  · rw [if_pos h1]
    by_cases h2 : GoodP x y z t
    · rw [if_pos h2]; congr 1; unfold meetB
      rw [← Bool.decide_and, ← Bool.decide_and, ← Bool.decide_and]
      apply decide_eq_decide.mpr
      constructor
      · intro h; refine ⟨h1, h2, ?_⟩; omega
      · intro h; omega
    · rw [if_neg h2]; congr 1; symm; apply decide_eq_false; exact fun h => h2 h.2.1
  · rw [if_neg h1]; congr 1; symm; apply decide_eq_false; exact fun h => h1 h.1
theorem Area_eq (a b c d : Int) : plane_Area.f a b c d = some (if GoodP a b c d then c * d else 0) := by
  unfold plane_Area.f
  simp only [Good_eq, Option.bind_some]
  by_cases h : GoodP a b c d <;> simp [h]
theorem MeetP_comm (a b c d x y z t : Int) : MeetP a b c d x y z t ↔ MeetP x y z t a b c d := by
  unfold MeetP; constructor <;> (rintro ⟨h1, h2, h3, h4, h5, h6⟩; exact ⟨h2, h1, h4, h3, h6, h5⟩)
theorem awake_60 : prebendlaw02_awake.f 60 = some true := by decide +kernel

theorem awake_up : ∀ j, prebendlaw02_awake.f (60 + j) = some true := by
  intro j
  induction j with
  | zero => decide +kernel
  | succ j ih => exact prebendlaw02_awake.mono (60 + j) _ ih
theorem mw (x : Int) (h : -9223372036854775808 ≤ x) (h2 : x < 9223372036854775808) : wrap64 x = x := by unfold wrap64; omega
theorem moves_j1 (a b c d : Int) (h : GoodP a b c d) : prebendlaw02_PlaneMoves.j1 (60 + 1) false a b c d (wrap64 (a + c)) b c d a (wrap64 (b + d)) c d = some true := by
  have h' := h
  unfold GoodP at h'
  rw [prebendlaw02_PlaneMoves.j1, if_neg (by simp), show prebendlaw02_awake.f 60 = some true from awake_up 0, Option.bind_some, if_pos rfl, mw (a + c) (by omega) (by omega), mw (b + d) (by omega) (by omega)]
  simp only [Meets_eq, Option.bind_some]
  have e1 : decide (MeetP a b c d a b c d) = true := decide_eq_true ⟨h, h, by omega, by omega, by omega, by omega⟩
  have e2 : decide (MeetP a b c d (a + c) b c d) = false := decide_eq_false (fun h => by unfold MeetP at h; omega)
  have e3 : decide (MeetP a b c d a (b + d) c d) = false := decide_eq_false (fun h => by unfold MeetP at h; omega)
  rw [e1, e2, e3]
  rfl
theorem u16_bd (x : Int) (h : (Lit.int .u16 x).wf = true) : 0 ≤ x ∧ x ≤ 65535 := by
  simp only [Lit.wf, Bool.and_eq_true, decide_eq_true_eq] at h
  have e1 : IntKind.u16.min = 0 := by decide +kernel
  have e2 : IntKind.u16.max = 65535 := by decide +kernel
  omega
theorem moves_no (m a b c d x y z t : Int) (h : ¬ (GoodP a b c d ∧ GoodP x y z t)) : prebendlaw02_PlaneMoves.j0 62 m true a b c d x y z t = some true := by
  rw [prebendlaw02_PlaneMoves.j0, if_pos rfl, show prebendlaw02_awake.f 61 = some true from awake_up 1, Option.bind_some, if_pos rfl, Meets_eq, Option.bind_some, decide_eq_false (fun h2 => h ⟨h2.1, h2.2.1⟩)]
  rfl
theorem PlaneMoves : prebendlaw02_PlaneMoves.Pure := by
  intro a b c d x y z t m _ _ _ _ _ _ _ _ hm
  have hm := u16_bd m hm
  refine ⟨62, ?_⟩
  unfold prebendlaw02_PlaneMoves.f
  rw [Good_eq, Option.bind_some]
  by_cases h1 : GoodP a b c d
  · rw [decide_eq_true h1, if_pos rfl, Good_eq, Option.bind_some]
    by_cases h2 : GoodP x y z t
    · rw [decide_eq_true h2]
      have h1' := h1
      have h2' := h2
      unfold GoodP at h1' h2'
      have J := moves_j1 a b c d h1
      rw [prebendlaw02_PlaneMoves.j0, if_neg (by simp), mw m (by omega) (by omega), mw (a + m) (by omega) (by omega), mw (x + m) (by omega) (by omega), Good_eq, Option.bind_some]
      by_cases h3 : GoodP (a + m) b c d
      · rw [decide_eq_true h3, if_pos rfl, Good_eq, Option.bind_some]
        by_cases h4 : GoodP (x + m) y z t
        · rw [decide_eq_true h4, if_pos rfl, Meets_eq, Option.bind_some, Meets_eq, Option.bind_some]
          have e : decide (MeetP (a + m) b c d (x + m) y z t) = decide (MeetP a b c d x y z t) := decide_eq_decide.mpr (by
            unfold MeetP
            constructor
            · rintro ⟨_, _, q⟩; exact ⟨h1, h2, by omega, by omega, by omega, by omega⟩
            · rintro ⟨_, _, q⟩; exact ⟨h3, h4, by omega, by omega, by omega, by omega⟩)
          rw [e, bne_self_eq_false]
          exact J
        · rw [decide_eq_false h4, if_neg (by simp)]
          exact J
      · rw [decide_eq_false h3, if_neg (by simp)]
        exact J
    · rw [decide_eq_false h2]
      exact moves_no m a b c d x y z t (fun h => h2 h.2)
  · rw [decide_eq_false h1, if_neg (by simp)]
    exact moves_no m a b c d x y z t (fun h => h1 h.1)

end Go.Proofs.Ytcocaapihhgckaa.Pure
