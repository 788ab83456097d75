/- Any two boxes: whether they may be, what they have, whether they meet: the same as the document's answer, both ways round. -/
import Derived.Test.YtokljfnicijheabPAllx17
import Derived.Laws.BitsLemmas
set_option linter.unusedVariables false
set_option linter.unusedSimpArgs false
namespace Go.Proofs.Ytokljfnicijheab.Pure
open Go Go.RowKit Go.Proofs.Ytokljfnicijheab.PAll Go.Proofs.YtokljfnicijheabW.PrintWords Go.Proofs.YtokljfnicijheabW.PrintLast

/-- What a box must be. -/
def GoodP (t n l m : Int) : Prop := 0 ≤ t ∧ t ≤ 1099511627776 ∧ 1 ≤ l ∧ l ≤ 1048576 ∧ 0 ≤ n ∧ n ≤ 31 ∧ 1 ≤ m ∧ n + m ≤ 32
instance (t n l m : Int) : Decidable (GoodP t n l m) := by unfold GoodP; infer_instance
theorem within_eq (a b c : Int) : plane_within.f a b c = some (decide (b ≤ a ∧ a ≤ c)) := by
  unfold plane_within.f; by_cases h : a ≥ b
  · rw [if_pos h]; congr 1; exact decide_eq_decide.mpr ⟨fun x => ⟨h, x⟩, fun x => x.2⟩
  · rw [if_neg h]; congr 1; symm; exact decide_eq_false (fun x => h x.1)
theorem in_eq (a b c : Int) : prebendref02_in.f a b c = some (decide (b ≤ a ∧ a ≤ c)) := by
  unfold prebendref02_in.f; by_cases h : a ≥ b
  · rw [if_pos h]; congr 1; exact decide_eq_decide.mpr ⟨fun x => ⟨h, x⟩, fun x => x.2⟩
  · rw [if_neg h]; congr 1; symm; exact decide_eq_false (fun x => h x.1)
theorem pick_ite (p : Prop) [Decidable p] (x y : Option Bool) : (if decide p = true then x else y) = if p then x else y := by by_cases h : p <;> simp [h]
theorem Good_eq (t n l m : Int) : plane_Good.f t n l m = some (decide (GoodP t n l m)) := by
  unfold plane_Good.f GoodP
  simp only [within_eq, Option.bind_some, pick_ite]
  by_cases h1 : 0 ≤ t ∧ t ≤ 1099511627776
  · rw [if_pos h1]
    by_cases h2 : 1 ≤ l ∧ l ≤ 1048576
    · rw [if_pos h2]
      by_cases h3 : 0 ≤ n ∧ n ≤ 31
      · rw [if_pos h3]; congr 1; apply decide_eq_decide.mpr
        unfold wrap64; omega
      · rw [if_neg h3]; congr 1; symm; apply decide_eq_false; omega
    · rw [if_neg h2]; congr 1; symm; apply decide_eq_false; omega
  · rw [if_neg h1]; congr 1; symm; apply decide_eq_false; omega
theorem rGood_eq (t n l m : Int) : prebendref02_Good.f t n l m = some (decide (GoodP t n l m)) := by
  unfold prebendref02_Good.f GoodP
  simp only [in_eq, Option.bind_some, pick_ite]
  by_cases h1 : 0 ≤ t ∧ t ≤ 1099511627776
  · rw [if_pos h1]
    by_cases h2 : 1 ≤ l ∧ l ≤ 1048576
    · rw [if_pos h2]
      by_cases h3 : 0 ≤ n ∧ n ≤ 31
      · rw [if_pos h3]
        by_cases h4 : 1 ≤ m ∧ m ≤ 32
        · rw [if_pos h4]; congr 1; apply decide_eq_decide.mpr
          unfold wrap64; omega
        · rw [if_neg h4]; congr 1; symm; apply decide_eq_false; omega
      · rw [if_neg h3]; congr 1; symm; apply decide_eq_false; omega
    · rw [if_neg h2]; congr 1; symm; apply decide_eq_false; omega
  · rw [if_neg h1]; congr 1; symm; apply decide_eq_false; omega
/-- Two boxes that may be, and have something in common. -/
def MeetP (a b c d x y z t : Int) : Prop := GoodP a b c d ∧ GoodP x y z t ∧ a < x + z ∧ x < a + c ∧ b < y + t ∧ y < b + d
instance (a b c d x y z t : Int) : Decidable (MeetP a b c d x y z t) := by unfold MeetP; infer_instance
theorem pick_ite' {α : Type} (p : Prop) [Decidable p] (x y : Option α) : (if decide p = true then x else y) = if p then x else y := by by_cases h : p <;> simp [h]
theorem Meets_eq (a b c d x y z t : Int) : plane_Meets.f a b c d x y z t = some (decide (MeetP a b c d x y z t)) := by
  unfold plane_Meets.f MeetP
  simp only [Good_eq, Option.bind_some, pick_ite]
  by_cases h1 : GoodP a b c d
  · rw [if_pos h1]
    by_cases h2 : GoodP x y z t
    · rw [if_pos h2]; congr 1; unfold meetB
      rw [← Bool.decide_and, ← Bool.decide_and, ← Bool.decide_and]
      apply decide_eq_decide.mpr
      constructor
      · intro h; refine ⟨h1, h2, ?_⟩; omega
      · intro h; omega
    · rw [if_neg h2]; congr 1; symm; apply decide_eq_false; exact fun h => h2 h.2.1
  · rw [if_neg h1]; congr 1; symm; apply decide_eq_false; exact fun h => h1 h.1
theorem rMeets_eq (a b c d x y z t : Int) : prebendref02_Meets.f a b c d x y z t = some (decide (MeetP a b c d x y z t)) := by
  unfold prebendref02_Meets.f
  simp only [rGood_eq, Option.bind_some, pick_ite]
  by_cases h : GoodP a b c d ∧ GoodP x y z t
  · obtain ⟨h1, h2⟩ := h
    have w1 : wrap64 (x + z) = x + z := by unfold GoodP at h2; unfold wrap64; omega
    have w2 : wrap64 (y + t) = y + t := by unfold GoodP at h2; unfold wrap64; omega
    have w3 : wrap64 (a + c) = a + c := by unfold GoodP at h1; unfold wrap64; omega
    have w4 : wrap64 (b + d) = b + d := by unfold GoodP at h1; unfold wrap64; omega
    simp only [w1, w2, w3, w4, if_pos h1, if_pos h2]
    unfold MeetP
    by_cases c1 : a < x + z <;> by_cases c2 : b < y + t <;> by_cases c3 : x < a + c <;> by_cases c4 : y < b + d <;> simp [c1, c2, c3, c4, h1, h2]
  · have hn : ¬ MeetP a b c d x y z t := fun q => h ⟨q.1, q.2.1⟩
    rw [decide_eq_false hn]
    by_cases h1 : GoodP a b c d
    · have h2 : ¬ GoodP x y z t := fun q => h ⟨h1, q⟩
      simp only [if_pos h1, if_neg h2]
      repeat' split
      all_goals rfl
    · simp only [if_neg h1]
      repeat' split
      all_goals rfl
theorem Area_eq (a b c d : Int) : plane_Area.f a b c d = some (if GoodP a b c d then c * d else 0) := by
  unfold plane_Area.f
  simp only [Good_eq, Option.bind_some]
  by_cases h : GoodP a b c d <;> simp [h]
theorem MeetP_comm (a b c d x y z t : Int) : MeetP a b c d x y z t ↔ MeetP x y z t a b c d := by
  unfold MeetP; constructor <;> (rintro ⟨h1, h2, h3, h4, h5, h6⟩; exact ⟨h2, h1, h4, h3, h6, h5⟩)
theorem awake_60 : prebendlaw02_awake.f 60 = some true := by decide +kernel

theorem rArea_eq (a b c d : Int) : prebendref02_Area.f a b c d = some (if GoodP a b c d then c * d else 0) := by
  unfold prebendref02_Area.f
  simp only [rGood_eq, Option.bind_some]
  by_cases h : GoodP a b c d
  · have h' := h
    unfold GoodP at h'
    have hp : 0 ≤ c * d ∧ c * d ≤ 1048576 * 32 := ⟨Int.mul_nonneg (by omega) (by omega), Int.le_trans (Int.mul_le_mul_of_nonneg_right h'.2.2.2.1 (by omega)) (Int.mul_le_mul_of_nonneg_left (by omega) (by omega))⟩
    have hw : wrap64 (c * d) = c * d := by unfold wrap64; omega
    simp [h, hw]
  · simp [h]

theorem PlaneMeets : prebendlaw02_PlaneMeets.Pure := by
  intro a b c d x y z t _ _ _ _ _ _ _ _
  refine ⟨60, ?_⟩
  unfold prebendlaw02_PlaneMeets.f
  rw [awake_60]
  simp only [Good_eq, rGood_eq, Area_eq, rArea_eq, Meets_eq, rMeets_eq, Option.bind_some, beq_self_eq_true, if_true]
  have e : decide (MeetP x y z t a b c d) = decide (MeetP a b c d x y z t) := decide_eq_decide.mpr (MeetP_comm x y z t a b c d)
  rw [e]; simp

end Go.Proofs.Ytokljfnicijheab.Pure
