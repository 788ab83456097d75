/- A sum is the sum of the sums of its parts, where all fit, and what is added and taken away again leaves what was: for all lists of numbers that a call may be handed; no conditions. -/
import Derived.Test.YtokljfnicijheaaPAllx18
import Derived.Laws.BitsLemmas
set_option linter.unusedVariables false
set_option linter.unusedSimpArgs false
namespace Go.Proofs.Ytokljfnicijheaa.Pure
open Go Go.RowKit Go.Proofs.Ytokljfnicijheaa.PAll Go.Proofs.YtokljfnicijheaaW.PrintWords Go.Proofs.YtokljfnicijheaaW.PrintLast

def fitB (n : Int) : Bool := decide (-1152921504606846976 ≤ n) && decide (n ≤ 1152921504606846976)
theorem fitB_iff (n : Int) : fitB n = true ↔ -1152921504606846976 ≤ n ∧ n ≤ 1152921504606846976 := by simp [fitB]
theorem rd_drop (l : List Int) (i : Nat) (h : i < l.length) : l.drop i = rd l (i : Int) :: l.drop (i + 1) := by
  rw [List.drop_eq_getElem_cons h]; simp [rd, h]
theorem wrap_id (n : Int) (h : -9223372036854775808 ≤ n) (h2 : n < 9223372036854775808) : wrap64 n = n := by unfold wrap64; omega

theorem fits_eq (n : Int) : money_fits.f n = some (fitB n) := by
  unfold money_fits.f fitB
  by_cases h : n ≥ -1152921504606846976
  · rw [if_pos h]; simp [h]
  · rw [if_neg h]; simp [h]

def addS : Int → List Int → Int × Int
  | s, [] => (s, 0)
  | s, x :: xs => if fitB x && fitB (s + x) then addS (s + x) xs else (0, 2)

theorem add_l0 (l : List Int) (hl : l.length < 9223372036854775807) (d : Nat) : ∀ (k i : Nat) (s : Int), l.length - i = d → i ≤ l.length → d < k → fitB s = true →
    money_Add.l0 k s l (l.length : Int) (i : Int) = some (addS s (l.drop i)) := by
  induction d with
  | zero =>
    intro k i s hd hi hk hs
    obtain ⟨k, rfl⟩ : ∃ m, k = m + 1 := ⟨k - 1, by omega⟩
    have : i = l.length := by omega
    subst this
    simp only [money_Add.l0]
    rw [if_neg (by omega)]; simp [addS]
  | succ d ih =>
    intro k i s hd hi hk hs
    obtain ⟨k, rfl⟩ : ∃ m, k = m + 1 := ⟨k - 1, by omega⟩
    simp only [money_Add.l0]
    rw [if_pos (by omega), if_pos (by omega), if_pos (by omega), rd_drop l i (by omega), fits_eq]
    simp only [Option.bind_some, addS]
    have hs' := (fitB_iff s).1 hs
    by_cases h1 : fitB (rd l i) = true
    · rw [if_pos h1]
      have h1' := (fitB_iff _).1 h1
      rw [wrap_id (s + rd l i) (by omega) (by omega), fits_eq]
      simp only [Option.bind_some, h1, Bool.true_and]
      by_cases h2 : fitB (s + rd l i) = true
      · rw [if_pos h2, if_pos h2, wrap_id (↑i + 1) (by omega) (by omega)]
        exact ih k (i + 1) _ (by omega) (by omega) (by omega) h2
      · rw [if_neg h2, if_neg h2]
    · rw [if_neg h1]
      simp [h1]
theorem add_eq (l : List Int) (hl : l.length < 9223372036854775807) (k : Nat) (hk : l.length < k) : money_Add.f k l = some (addS 0 l) := by
  have := add_l0 l hl l.length k 0 0 (by omega) (by omega) hk (by decide)
  simpa [money_Add.f] using this

theorem few_eq (l : List Int) : prebendlaw01_few.f l = some (l.take 100) := by
  unfold prebendlaw01_few.f
  by_cases h : (l.length : Int) > 100
  · rw [if_pos h, if_pos (by omega)]
  · rw [if_neg h, List.take_of_length_le (by omega)]
theorem few_len (l : List Int) : (l.take 100).length ≤ 100 := by rw [List.length_take]; omega

theorem awake_300 : prebendlaw01_awake.f 300 = some true := by decide +kernel
theorem awake_299 : prebendlaw01_awake.f 299 = some true := by decide +kernel
theorem addS_cases : ∀ (l : List Int) (s : Int), fitB s = true → (addS s l = (s + l.sum, 0) ∧ fitB (s + l.sum) = true) ∨ addS s l = (0, 2)
  | [], s, h => by left; simp [addS, h]
  | x :: xs, s, h => by
    unfold addS
    split
    · rename_i h2
      simp only [Bool.and_eq_true] at h2
      rcases addS_cases xs (s + x) h2.2 with ⟨h3, h4⟩ | h3
      · left; rw [h3, List.sum_cons, ← Int.add_assoc]; exact ⟨rfl, h4⟩
      · right; exact h3
    · right; rfl
theorem addS_append : ∀ (a b : List Int) (s : Int), (addS s (a ++ b)).2 = 0 → (addS s a).2 = 0 ∧ addS s (a ++ b) = addS (addS s a).1 b
  | [], b, s, h => ⟨rfl, rfl⟩
  | x :: xs, b, s, h => by
    simp only [List.cons_append, addS] at h ⊢
    split
    · rename_i h2; rw [if_pos h2] at h; exact addS_append xs b _ h
    · rename_i h2; rw [if_neg h2] at h; simp at h
theorem MoneyParts : prebendlaw01_MoneyParts.Pure := by
  intro l m h1 h2 h3 h4 h5 h6
  refine ⟨300, ?_⟩
  unfold prebendlaw01_MoneyParts.f
  rw [few_eq, few_eq]
  simp only [Option.bind_some, List.nil_append]
  have hx := few_len l
  have hy := few_len m
  have hx3 : ∀ x ∈ l.take 100, (Lit.int .i64 x).wf = true := fun x hx => h3 x (List.mem_of_mem_take hx)
  generalize l.take 100 = x at *
  generalize m.take 100 = y at *
  have hxy : (x ++ y).length ≤ 200 := by rw [List.length_append]; omega
  rw [if_pos (by simp; omega), if_pos (by omega), add_eq _ (by omega) 300 (by omega), add_eq _ (by omega) 300 (by omega), add_eq _ (by omega) 300 (by omega)]
  simp only [Option.bind_some]
  rcases addS_cases (x ++ y) 0 (by decide) with ⟨h, hf⟩ | h
  · have ha := addS_append x y 0 (by rw [h])
    rw [h]
    simp only [if_true]
    obtain ⟨hx1, fx⟩ : addS 0 x = (0 + x.sum, 0) ∧ fitB (0 + x.sum) = true := by
      rcases addS_cases x 0 (by decide) with h | h
      · exact h
      · rw [h] at ha; simp at ha
    rw [hx1]
    simp only [if_true]
    rw [List.sum_append] at hf
    have gf := (fitB_iff _).1 hf
    have gx := (fitB_iff _).1 fx
    have key : ∀ j : Bool, j = false → prebendlaw01_MoneyParts.j0 300 x (0 + (x ++ y).sum) (0 + x.sum) j = some true := by
      rintro _ rfl
      rw [prebendlaw01_MoneyParts.j0, if_neg (by simp), awake_299]
      by_cases hn : (x.length : Int) = 0
      · rw [if_pos hn]
        have : x = [] := List.length_eq_zero_iff.1 (by omega)
        subst this; simp
      · rw [if_neg hn, if_pos (by omega), add_eq _ (by simp) 299 (by simp)]
        simp only [Option.bind_some, if_true]
        by_cases h0 : (addS 0 [0 + (x ++ y).sum, wrap64 (-rd x 0), rd x 0]).2 = 0
        · rw [if_pos h0]
          rcases addS_cases [0 + (x ++ y).sum, wrap64 (-rd x 0), rd x 0] 0 (by decide) with ⟨h9, f9⟩ | h9
          · have hr : fitB (rd x 0) = true := by
              have hne : x ≠ [] := fun h => hn (by rw [h]; rfl)
              obtain ⟨c, cs, rfl⟩ := List.exists_cons_of_ne_nil hne
              have : rd (c :: cs) 0 = c := rfl
              rw [this]
              have hz : addS 0 (c :: cs) = (0 + (c :: cs).sum, 0) := hx1
              simp only [addS] at hz
              split at hz
              · rename_i h2; simp only [Bool.and_eq_true] at h2; exact h2.1
              · simp at hz
            have gr := (fitB_iff _).1 hr
            rw [h9, wrap_id (-rd x 0) (by omega) (by omega)]
            simp
            omega
          · rw [h9] at h0; simp at h0
        · rw [if_neg h0]
    rcases addS_cases y 0 (by decide) with ⟨hy1, fy⟩ | hy1
    · rw [hy1, if_pos rfl]
      apply key
      have gy := (fitB_iff _).1 fy
      rw [wrap_id _ (by omega) (by omega), List.sum_append]
      simp
    · rw [hy1, if_neg (by simp)]
      exact key false rfl
  · rw [h, awake_300]; simp

end Go.Proofs.Ytokljfnicijheaa.Pure
