/- The sum of any numbers, or that it does not fit, is what the document says: for all lists of numbers that a call may be handed; no conditions. -/
import Derived.Test.YtokljfnicijheaaPAllx12
import Derived.Laws.BitsLemmas
set_option linter.unusedVariables false
set_option linter.unusedSimpArgs false
namespace Go.Proofs.Ytokljfnicijheaa.Pure
open Go Go.RowKit Go.Proofs.Ytokljfnicijheaa.PAll Go.Proofs.YtokljfnicijheaaW.PrintWords Go.Proofs.YtokljfnicijheaaW.PrintLast

def fitB (n : Int) : Bool := decide (-1152921504606846976 ≤ n) && decide (n ≤ 1152921504606846976)
theorem fitB_iff (n : Int) : fitB n = true ↔ -1152921504606846976 ≤ n ∧ n ≤ 1152921504606846976 := by simp [fitB]
theorem rd_drop (l : List Int) (i : Nat) (h : i < l.length) : l.drop i = rd l (i : Int) :: l.drop (i + 1) := by
  rw [List.drop_eq_getElem_cons h]; simp [rd, h]
theorem wrap_id (n : Int) (h : -9223372036854775808 ≤ n) (h2 : n < 9223372036854775808) : wrap64 n = n := by unfold wrap64; omega

theorem fits_eq (n : Int) : money_fits.f n = some (fitB n) := by
  unfold money_fits.f fitB
  by_cases h : n ≥ -1152921504606846976
  · rw [if_pos h]; simp [h]
  · rw [if_neg h]; simp [h]

theorem Fits_eq (n : Int) : prebendref01_Fits.f n = some (fitB n) := by
  unfold prebendref01_Fits.f fitB
  by_cases h : n ≥ -1152921504606846976
  · rw [if_pos h]; simp [h]
  · rw [if_neg h]; simp [h]

def addS : Int → List Int → Int × Int
  | s, [] => (s, 0)
  | s, x :: xs => if fitB x && fitB (s + x) then addS (s + x) xs else (0, 2)

theorem add_l0 (l : List Int) (hl : l.length < 9223372036854775807) (d : Nat) : ∀ (k i : Nat) (s : Int), l.length - i = d → i ≤ l.length → d < k → fitB s = true →
    money_Add.l0 k s l (l.length : Int) (i : Int) = some (addS s (l.drop i)) := by
  induction d with
  | zero =>
    intro k i s hd hi hk hs
    obtain ⟨k, rfl⟩ : ∃ m, k = m + 1 := ⟨k - 1, by omega⟩
    have : i = l.length := by omega
    subst this
    simp only [money_Add.l0]
    rw [if_neg (by omega)]; simp [addS]
  | succ d ih =>
    intro k i s hd hi hk hs
    obtain ⟨k, rfl⟩ : ∃ m, k = m + 1 := ⟨k - 1, by omega⟩
    simp only [money_Add.l0]
    rw [if_pos (by omega), if_pos (by omega), if_pos (by omega), rd_drop l i (by omega), fits_eq]
    simp only [Option.bind_some, addS]
    have hs' := (fitB_iff s).1 hs
    by_cases h1 : fitB (rd l i) = true
    · rw [if_pos h1]
      have h1' := (fitB_iff _).1 h1
      rw [wrap_id (s + rd l i) (by omega) (by omega), fits_eq]
      simp only [Option.bind_some, h1, Bool.true_and]
      by_cases h2 : fitB (s + rd l i) = true
      · rw [if_pos h2, if_pos h2, wrap_id (↑i + 1) (by omega) (by omega)]
        exact ih k (i + 1) _ (by omega) (by omega) (by omega) h2
      · rw [if_neg h2, if_neg h2]
    · rw [if_neg h1]
      simp [h1]
theorem add_eq (l : List Int) (hl : l.length < 9223372036854775807) (k : Nat) (hk : l.length < k) : money_Add.f k l = some (addS 0 l) := by
  have := add_l0 l hl l.length k 0 0 (by omega) (by omega) hk (by decide)
  simpa [money_Add.f] using this

theorem Add_l0 (l : List Int) (hl : l.length < 9223372036854775807) (d : Nat) : ∀ (k i : Nat) (s : Int), l.length - i = d → i ≤ l.length → d < k → fitB s = true →
    prebendref01_Add.l0 k l s (i : Int) = some (addS s (l.drop i)) := by
  induction d with
  | zero =>
    intro k i s hd hi hk hs
    obtain ⟨k, rfl⟩ : ∃ m, k = m + 1 := ⟨k - 1, by omega⟩
    have : i = l.length := by omega
    subst this
    simp only [prebendref01_Add.l0]
    rw [if_neg (by omega)]; simp [addS]
  | succ d ih =>
    intro k i s hd hi hk hs
    obtain ⟨k, rfl⟩ : ∃ m, k = m + 1 := ⟨k - 1, by omega⟩
    simp only [prebendref01_Add.l0]
    rw [if_pos (by omega), if_pos (by omega), rd_drop l i (by omega), Fits_eq]
    simp only [Option.bind_some, addS]
    have hs' := (fitB_iff s).1 hs
    by_cases h1 : fitB (rd l i) = true
    · rw [if_pos h1]
      have h1' := (fitB_iff _).1 h1
      rw [wrap_id (s + rd l i) (by omega) (by omega), wrap_id (1152921504606846976 - rd l i) (by omega) (by omega), wrap_id (-1152921504606846976 - rd l i) (by omega) (by omega), wrap_id (↑i + 1) (by omega) (by omega)]
      simp only [h1, Bool.true_and]
      by_cases h2 : fitB (s + rd l i) = true
      · have h2' := (fitB_iff _).1 h2
        have e := ih k (i + 1) _ (by omega) (by omega) (by omega) h2
        rw [if_pos h2]
        rw [← e]
        repeat' split
        all_goals first | rfl | omega
      · have h2' : ¬ _ := fun h => h2 ((fitB_iff _).2 h)
        rw [if_neg h2]
        repeat' split
        all_goals first | rfl | omega
    · rw [if_neg h1]
      simp [h1]
theorem Add_eq (l : List Int) (hl : l.length < 9223372036854775807) (k : Nat) (hk : l.length < k) : prebendref01_Add.f k l = some (addS 0 l) := by
  have := Add_l0 l hl l.length k 0 0 (by omega) (by omega) hk (by decide)
  simpa [prebendref01_Add.f] using this

theorem few_eq (l : List Int) : prebendlaw01_few.f l = some (l.take 100) := by
  unfold prebendlaw01_few.f
  by_cases h : (l.length : Int) > 100
  · rw [if_pos h, if_pos (by omega)]
  · rw [if_neg h, List.take_of_length_le (by omega)]
theorem few_len (l : List Int) : (l.take 100).length ≤ 100 := by rw [List.length_take]; omega

theorem awake_200 : prebendlaw01_awake.f 200 = some true := by decide +kernel
theorem MoneyAdds : prebendlaw01_MoneyAdds.Pure := by
  intro l h1 h2 h3
  refine ⟨200, ?_⟩
  have hl := few_len l
  unfold prebendlaw01_MoneyAdds.f
  rw [few_eq]
  simp only [Option.bind_some]
  rw [add_eq _ (by omega) 200 (by omega), Add_eq _ (by omega) 200 (by omega), awake_200]
  simp

end Go.Proofs.Ytokljfnicijheaa.Pure
