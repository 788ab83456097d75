/- What is in any account, and in all, is what the document says: for all amounts and numbers that a call may be handed; no conditions. -/
import Derived.Test.YtkjkonkgcepanaaPAllx26
import Derived.Laws.BitsLemmas
set_option linter.unusedVariables false
set_option linter.unusedSimpArgs false
namespace Go.Proofs.Ytkjkonkgcepanaa.Pure
open Go Go.RowKit Go.Proofs.Ytkjkonkgcepanaa.PAll Go.Proofs.YtkjkonkgcepanaaW.PrintWords Go.Proofs.YtkjkonkgcepanaaW.PrintLast

def fitB (n : Int) : Bool := decide (-1152921504606846976 ≤ n) && decide (n ≤ 1152921504606846976)
theorem fitB_iff (n : Int) : fitB n = true ↔ -1152921504606846976 ≤ n ∧ n ≤ 1152921504606846976 := by simp [fitB]
theorem rd_drop (l : List Int) (i : Nat) (h : i < l.length) : l.drop i = rd l (i : Int) :: l.drop (i + 1) := by
  rw [List.drop_eq_getElem_cons h]; simp [rd, h]
theorem wrap_id (n : Int) (h : -9223372036854775808 ≤ n) (h2 : n < 9223372036854775808) : wrap64 n = n := by unfold wrap64; omega

theorem fits_eq (n : Int) : money_fits.f n = some (fitB n) := by
  unfold money_fits.f fitB
  by_cases h : n ≥ -1152921504606846976
  · rw [if_pos h]; simp [h]
  · rw [if_neg h]; simp [h]

theorem Fits_eq (n : Int) : prebendref01_Fits.f n = some (fitB n) := by
  unfold prebendref01_Fits.f fitB
  by_cases h : n ≥ -1152921504606846976
  · rw [if_pos h]; simp [h]
  · rw [if_neg h]; simp [h]

def addS : Int → List Int → Int × Int
  | s, [] => (s, 0)
  | s, x :: xs => if fitB x && fitB (s + x) then addS (s + x) xs else (0, 2)

theorem add_l0 (l : List Int) (hl : l.length < 9223372036854775807) (d : Nat) : ∀ (k i : Nat) (s : Int), l.length - i = d → i ≤ l.length → d < k → fitB s = true →
    money_Add.l0 k s l (l.length : Int) (i : Int) = some (addS s (l.drop i)) := by
  induction d with
  | zero =>
    intro k i s hd hi hk hs
    obtain ⟨k, rfl⟩ : ∃ m, k = m + 1 := ⟨k - 1, by omega⟩
    have : i = l.length := by omega
    subst this
    simp only [money_Add.l0]
    rw [if_neg (by omega)]; simp [addS]
  | succ d ih =>
    intro k i s hd hi hk hs
    obtain ⟨k, rfl⟩ : ∃ m, k = m + 1 := ⟨k - 1, by omega⟩
    simp only [money_Add.l0]
    rw [if_pos (by omega), if_pos (by omega), if_pos (by omega), rd_drop l i (by omega), fits_eq]
    simp only [Option.bind_some, addS]
    have hs' := (fitB_iff s).1 hs
    by_cases h1 : fitB (rd l i) = true
    · rw [if_pos h1]
      have h1' := (fitB_iff _).1 h1
      rw [wrap_id (s + rd l i) (by omega) (by omega), fits_eq]
      simp only [Option.bind_some, h1, Bool.true_and]
      by_cases h2 : fitB (s + rd l i) = true
      · rw [if_pos h2, if_pos h2, wrap_id (↑i + 1) (by omega) (by omega)]
        exact ih k (i + 1) _ (by omega) (by omega) (by omega) h2
      · rw [if_neg h2, if_neg h2]
    · rw [if_neg h1]
      simp [h1]
theorem add_eq (l : List Int) (hl : l.length < 9223372036854775807) (k : Nat) (hk : l.length < k) : money_Add.f k l = some (addS 0 l) := by
  have := add_l0 l hl l.length k 0 0 (by omega) (by omega) hk (by decide)
  simpa [money_Add.f] using this

theorem Add_l0 (l : List Int) (hl : l.length < 9223372036854775807) (d : Nat) : ∀ (k i : Nat) (s : Int), l.length - i = d → i ≤ l.length → d < k → fitB s = true →
    prebendref01_Add.l0 k l s (i : Int) = some (addS s (l.drop i)) := by
  induction d with
  | zero =>
    intro k i s hd hi hk hs
    obtain ⟨k, rfl⟩ : ∃ m, k = m + 1 := ⟨k - 1, by omega⟩
    have : i = l.length := by omega
    subst this
    simp only [prebendref01_Add.l0]
    rw [if_neg (by omega)]; simp [addS]
  | succ d ih =>
    intro k i s hd hi hk hs
    obtain ⟨k, rfl⟩ : ∃ m, k = m + 1 := ⟨k - 1, by omega⟩
    simp only [prebendref01_Add.l0]
    rw [if_pos (by omega), if_pos (by omega), rd_drop l i (by omega), Fits_eq]
    simp only [Option.bind_some, addS]
    have hs' := (fitB_iff s).1 hs
    by_cases h1 : fitB (rd l i) = true
    · rw [if_pos h1]
      have h1' := (fitB_iff _).1 h1
      rw [wrap_id (s + rd l i) (by omega) (by omega), wrap_id (1152921504606846976 - rd l i) (by omega) (by omega), wrap_id (-1152921504606846976 - rd l i) (by omega) (by omega), wrap_id (↑i + 1) (by omega) (by omega)]
      simp only [h1, Bool.true_and]
      by_cases h2 : fitB (s + rd l i) = true
      · have h2' := (fitB_iff _).1 h2
        have e := ih k (i + 1) _ (by omega) (by omega) (by omega) h2
        rw [if_pos h2]
        rw [← e]
        repeat' split
        all_goals first | rfl | omega
      · have h2' : ¬ _ := fun h => h2 ((fitB_iff _).2 h)
        rw [if_neg h2]
        repeat' split
        all_goals first | rfl | omega
    · rw [if_neg h1]
      simp [h1]
theorem Add_eq (l : List Int) (hl : l.length < 9223372036854775807) (k : Nat) (hk : l.length < k) : prebendref01_Add.f k l = some (addS 0 l) := by
  have := Add_l0 l hl l.length k 0 0 (by omega) (by omega) hk (by decide)
  simpa [prebendref01_Add.f] using this

theorem lfew_eq (l : List S39) : prebendlaw09_few.f l = some (l.take 20) := by
  unfold prebendlaw09_few.f
  by_cases h : (l.length : Int) > 20
  · rw [if_pos h, if_pos (by omega)]
  · rw [if_neg h, List.take_of_length_le (by omega)]

def flatT : List S39 → List Int
  | [] => []
  | x :: xs => x.f3 :: x.f4 :: x.f5 :: flatT xs
def flatS (a0 : Int) (l : List S39) : List Int := a0 :: flatT l
theorem flatT_len (l : List S39) : (flatT l).length = 3 * l.length := by
  induction l with
  | nil => rfl
  | cons x xs ih => simp only [flatT, List.length_cons, ih]; omega
theorem flatT_app (l m : List S39) : flatT (l ++ m) = flatT l ++ flatT m := by
  induction l with
  | nil => rfl
  | cons x xs ih => simp only [flatT, List.cons_append, ih]
theorem rd39_drop (l : List S39) (i : Nat) (h : i < l.length) : l.drop i = rd_T39 l (i : Int) :: l.drop (i + 1) := by
  rw [List.drop_eq_getElem_cons h]; simp [rd_T39, h]
theorem flat_get : ∀ (l : List S39) (i : Nat), i < l.length → (flatT l)[3 * i]? = some (rd_T39 l (i : Int)).f3 ∧ (flatT l)[3 * i + 1]? = some (rd_T39 l (i : Int)).f4 ∧ (flatT l)[3 * i + 2]? = some (rd_T39 l (i : Int)).f5 := by
  intro l
  induction l with
  | nil => intro i h; simp at h
  | cons x xs ih =>
    intro i h
    cases i with
    | zero => exact ⟨rfl, rfl, rfl⟩
    | succ i =>
      have e := ih i (by simpa using h)
      have hr : rd_T39 (x :: xs) ((i + 1 : Nat) : Int) = rd_T39 xs (i : Int) := by simp [rd_T39]
      rw [hr, show 3 * (i + 1) = 3 * i + 1 + 1 + 1 by omega]
      simp only [flatT, List.getElem?_cons_succ]
      exact e
theorem flat_rd (a0 : Int) (l : List S39) (a : Int) (h0 : 0 ≤ a) (h1 : a ≤ 3 * (l.length : Int)) : rd (flatS a0 l) a = acctOf a0 l a := by
  unfold acctOf flatS
  by_cases c : a = 0
  · subst c; rfl
  · rw [if_neg c]
    obtain ⟨i, hi⟩ : ∃ i : Nat, (a - 1) / 3 = (i : Int) := ⟨((a - 1) / 3).toNat, by omega⟩
    obtain ⟨g1, g2, g3⟩ := flat_get l i (by omega)
    rw [hi]
    have hm : a = 1 + 3 * (i : Int) ∨ a = 2 + 3 * (i : Int) ∨ a = 3 + 3 * (i : Int) := by omega
    unfold rd
    rcases hm with rfl | rfl | rfl
    · rw [show (1 + 3 * (i : Int)).toNat = 3 * i + 1 by omega, show (1 + 3 * (i : Int) - 1) % 3 = 0 by omega, List.getD_cons_succ, List.getD_eq_getElem?_getD, g1]; rfl
    · rw [show (2 + 3 * (i : Int)).toNat = 3 * i + 1 + 1 by omega, show (2 + 3 * (i : Int) - 1) % 3 = 1 by omega, List.getD_cons_succ, List.getD_eq_getElem?_getD, g2]; rfl
    · rw [show (3 + 3 * (i : Int)).toNat = 3 * i + 2 + 1 by omega, show (3 + 3 * (i : Int) - 1) % 3 = 2 by omega, List.getD_cons_succ, List.getD_eq_getElem?_getD, g3]; rfl
theorem flat_l0 (l : List S39) (hl : l.length ≤ 30) : ∀ (d k i : Nat) (acc : List Int), l.length - i = d → i ≤ l.length → acc.length ≤ 1 + 3 * i → d < k → prebendref09_Flat.l0 k l acc (i : Int) = some (acc ++ flatT (l.drop i)) := by
  intro d
  induction d with
  | zero =>
    intro k i acc hd hi ha hk
    obtain ⟨k, rfl⟩ : ∃ m, k = m + 1 := ⟨k - 1, by omega⟩
    simp only [prebendref09_Flat.l0]
    rw [if_neg (by omega), List.drop_of_length_le (by omega)]; simp [flatT]
  | succ d ih =>
    intro k i acc hd hi ha hk
    obtain ⟨k, rfl⟩ : ∃ m, k = m + 1 := ⟨k - 1, by omega⟩
    simp only [prebendref09_Flat.l0, Option.bind_some]
    rw [if_pos (by omega), if_pos (by omega), if_pos (by simp; omega), if_pos (by simp; omega), if_pos (by simp; omega), wrap_id _ (by omega) (by omega), show ((i : Int) + 1) = ((i + 1 : Nat) : Int) by omega, ih k (i + 1) _ (by omega) (by omega) (by simp; omega) (by omega), rd39_drop l i (by omega)]
    simp [flatT]
theorem flat_eq (a0 : Int) (l : List S39) (hl : l.length ≤ 30) (k : Nat) (hk : l.length < k) : prebendref09_Flat.f k a0 l = some (flatS a0 l) := by
  have := flat_l0 l hl l.length k 0 [a0] (by omega) (by omega) (by simp) hk
  unfold prebendref09_Flat.f flatS; simpa using this

theorem awake_up : ∀ j, prebendlaw09_awake.f (200 + j) = some true := by
  intro j
  induction j with
  | zero => decide +kernel
  | succ j ih => exact prebendlaw09_awake.mono (200 + j) _ ih
theorem awake_at (k : Nat) (h : 200 ≤ k) : prebendlaw09_awake.f k = some true := by
  obtain ⟨j, rfl⟩ : ∃ j, k = 200 + j := ⟨k - 200, by omega⟩
  exact awake_up j
theorem total_l0 (l : List S39) (hl : l.length ≤ 30) : ∀ (d k i : Nat) (acc : List Int), l.length - i = d → i ≤ l.length → acc.length ≤ 1 + 3 * i → d + 100 < k → ledger_Total.l0 k acc l (l.length : Int) (i : Int) = some (addS 0 (acc ++ flatT (l.drop i))) := by
  intro d
  induction d with
  | zero =>
    intro k i acc hd hi ha hk
    obtain ⟨k, rfl⟩ : ∃ m, k = m + 1 := ⟨k - 1, by omega⟩
    simp only [ledger_Total.l0]
    rw [if_neg (by omega), List.drop_of_length_le (by omega), add_eq _ (by omega) k (by omega)]; simp [flatT]
  | succ d ih =>
    intro k i acc hd hi ha hk
    obtain ⟨k, rfl⟩ : ∃ m, k = m + 1 := ⟨k - 1, by omega⟩
    simp only [ledger_Total.l0, Option.bind_some]
    rw [if_pos (by omega), if_pos (by omega), if_pos (by omega), if_pos (by simp; omega), wrap_id _ (by omega) (by omega), show ((i : Int) + 1) = ((i + 1 : Nat) : Int) by omega, ih k (i + 1) _ (by omega) (by omega) (by simp; omega) (by omega), rd39_drop l i (by omega)]
    simp [flatT]
theorem total_eq (a0 : Int) (l : List S39) (hl : l.length ≤ 30) (k : Nat) (hk : 200 ≤ k) : ledger_Total.f k a0 l = some (addS 0 (flatS a0 l)) := by
  have := total_l0 l hl l.length k 0 [a0] (by omega) (by omega) (by simp) (by omega)
  unfold ledger_Total.f flatS; simpa using this
theorem wf64 (x : Int) (h : (Lit.int .i64 x).wf = true) : -9223372036854775808 ≤ x ∧ x ≤ 9223372036854775807 := by
  simp only [Lit.wf, Bool.and_eq_true, decide_eq_true_eq] at h
  have e1 : IntKind.i64.min = -9223372036854775808 := by decide +kernel
  have e2 : IntKind.i64.max = 9223372036854775807 := by decide +kernel
  omega
theorem reads_at (K : Nat) (hK : 500 ≤ K) (a0 : Int) (l1 : List S39) (a2 : Int) (w2 : (Lit.int .i64 a2).wf = true) : prebendlaw09_LedgerReads.f K a0 l1 a2 = some true := by
  have hl : (l1.take 20).length ≤ 20 := by rw [List.length_take]; omega
  have hw := wf64 a2 w2
  unfold prebendlaw09_LedgerReads.f
  rw [lfew_eq, Option.bind_some]
  generalize l1.take 20 = x at hl
  have hfl : (flatS a0 x).length = 1 + 3 * x.length := by unfold flatS; rw [List.length_cons, flatT_len]; omega
  rw [flat_eq a0 x (by omega) K (by omega), Option.bind_some]
  have ha : ledger_Amount.f a0 x a2 = some (if 0 ≤ a2 ∧ a2 ≤ 3 * (x.length : Int) then (acctOf a0 x a2, 0) else (0, 4)) := by
    unfold ledger_Amount.f
    rw [if_pos (by omega)]
    split <;> rfl
  rw [ha, Option.bind_some, total_eq a0 x (by omega) K (by omega), Option.bind_some, Add_eq _ (by omega) K (by omega), Option.bind_some]
  obtain ⟨M, rfl⟩ : ∃ M, K = M + 1 := ⟨K - 1, by omega⟩
  by_cases c : 0 ≤ a2 ∧ a2 ≤ 3 * (x.length : Int)
  · rw [if_neg (by omega), decide_eq_false (by omega), if_pos c]
    simp only [prebendlaw09_LedgerReads.j0]
    rw [if_neg (by simp), awake_at M (by omega), Option.bind_some, if_pos rfl, if_pos c.1, if_pos (by omega), if_pos (flat_rd a0 x a2 c.1 c.2).symm, if_pos trivial, if_pos trivial]
    simp
  · rw [if_neg c]
    have e : (if a2 < 0 then prebendlaw09_LedgerReads.j0 (M + 1) a2 (flatS a0 x) ((0 : Int), (4 : Int)).1 ((0 : Int), (4 : Int)).2 (addS 0 (flatS a0 x)).1 (addS 0 (flatS a0 x)).2 (addS 0 (flatS a0 x)).1 (addS 0 (flatS a0 x)).2 true else prebendlaw09_LedgerReads.j0 (M + 1) a2 (flatS a0 x) ((0 : Int), (4 : Int)).1 ((0 : Int), (4 : Int)).2 (addS 0 (flatS a0 x)).1 (addS 0 (flatS a0 x)).2 (addS 0 (flatS a0 x)).1 (addS 0 (flatS a0 x)).2 (decide (a2 ≥ ((flatS a0 x).length : Int)))) = some true := by
      have j : prebendlaw09_LedgerReads.j0 (M + 1) a2 (flatS a0 x) 0 4 (addS 0 (flatS a0 x)).1 (addS 0 (flatS a0 x)).2 (addS 0 (flatS a0 x)).1 (addS 0 (flatS a0 x)).2 true = some true := by
        simp only [prebendlaw09_LedgerReads.j0]
        rw [if_pos trivial, awake_at M (by omega), Option.bind_some, if_pos rfl, if_pos trivial, if_pos trivial, if_pos trivial]
        simp
      by_cases h : a2 < 0
      · rw [if_pos h]; exact j
      · rw [if_neg h, decide_eq_true (by omega)]; exact j
    exact e
theorem LedgerReads : prebendlaw09_LedgerReads.Pure := fun a0 l1 a2 _ _ w2 => ⟨500, reads_at 500 (Nat.le_refl _) a0 l1 a2 w2⟩

end Go.Proofs.Ytkjkonkgcepanaa.Pure
