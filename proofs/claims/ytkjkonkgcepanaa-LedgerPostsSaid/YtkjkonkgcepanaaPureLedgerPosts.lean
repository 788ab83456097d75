/- Any legs, posted to any amounts: what there is then, or why not, is what the document says: for all amounts and legs that a call may be handed; no conditions. -/
import Derived.Test.YtkjkonkgcepanaaPAllx21
import Derived.Laws.BitsLemmas
set_option linter.unusedVariables false
set_option linter.unusedSimpArgs false
namespace Go.Proofs.Ytkjkonkgcepanaa.Pure
open Go Go.RowKit Go.Proofs.Ytkjkonkgcepanaa.PAll Go.Proofs.YtkjkonkgcepanaaW.PrintWords Go.Proofs.YtkjkonkgcepanaaW.PrintLast

def fitB (n : Int) : Bool := decide (-1152921504606846976 ≤ n) && decide (n ≤ 1152921504606846976)
theorem fitB_iff (n : Int) : fitB n = true ↔ -1152921504606846976 ≤ n ∧ n ≤ 1152921504606846976 := by simp [fitB]
theorem rd_drop (l : List Int) (i : Nat) (h : i < l.length) : l.drop i = rd l (i : Int) :: l.drop (i + 1) := by
  rw [List.drop_eq_getElem_cons h]; simp [rd, h]
theorem wrap_id (n : Int) (h : -9223372036854775808 ≤ n) (h2 : n < 9223372036854775808) : wrap64 n = n := by unfold wrap64; omega

theorem fits_eq (n : Int) : money_fits.f n = some (fitB n) := by
  unfold money_fits.f fitB
  by_cases h : n ≥ -1152921504606846976
  · rw [if_pos h]; simp [h]
  · rw [if_neg h]; simp [h]

theorem Fits_eq (n : Int) : prebendref01_Fits.f n = some (fitB n) := by
  unfold prebendref01_Fits.f fitB
  by_cases h : n ≥ -1152921504606846976
  · rw [if_pos h]; simp [h]
  · rw [if_neg h]; simp [h]

def addS : Int → List Int → Int × Int
  | s, [] => (s, 0)
  | s, x :: xs => if fitB x && fitB (s + x) then addS (s + x) xs else (0, 2)

theorem add_l0 (l : List Int) (hl : l.length < 9223372036854775807) (d : Nat) : ∀ (k i : Nat) (s : Int), l.length - i = d → i ≤ l.length → d < k → fitB s = true →
    money_Add.l0 k s l (l.length : Int) (i : Int) = some (addS s (l.drop i)) := by
  induction d with
  | zero =>
    intro k i s hd hi hk hs
    obtain ⟨k, rfl⟩ : ∃ m, k = m + 1 := ⟨k - 1, by omega⟩
    have : i = l.length := by omega
    subst this
    simp only [money_Add.l0]
    rw [if_neg (by omega)]; simp [addS]
  | succ d ih =>
    intro k i s hd hi hk hs
    obtain ⟨k, rfl⟩ : ∃ m, k = m + 1 := ⟨k - 1, by omega⟩
    simp only [money_Add.l0]
    rw [if_pos (by omega), if_pos (by omega), if_pos (by omega), rd_drop l i (by omega), fits_eq]
    simp only [Option.bind_some, addS]
    have hs' := (fitB_iff s).1 hs
    by_cases h1 : fitB (rd l i) = true
    · rw [if_pos h1]
      have h1' := (fitB_iff _).1 h1
      rw [wrap_id (s + rd l i) (by omega) (by omega), fits_eq]
      simp only [Option.bind_some, h1, Bool.true_and]
      by_cases h2 : fitB (s + rd l i) = true
      · rw [if_pos h2, if_pos h2, wrap_id (↑i + 1) (by omega) (by omega)]
        exact ih k (i + 1) _ (by omega) (by omega) (by omega) h2
      · rw [if_neg h2, if_neg h2]
    · rw [if_neg h1]
      simp [h1]
theorem add_eq (l : List Int) (hl : l.length < 9223372036854775807) (k : Nat) (hk : l.length < k) : money_Add.f k l = some (addS 0 l) := by
  have := add_l0 l hl l.length k 0 0 (by omega) (by omega) hk (by decide)
  simpa [money_Add.f] using this

theorem Add_l0 (l : List Int) (hl : l.length < 9223372036854775807) (d : Nat) : ∀ (k i : Nat) (s : Int), l.length - i = d → i ≤ l.length → d < k → fitB s = true →
    prebendref01_Add.l0 k l s (i : Int) = some (addS s (l.drop i)) := by
  induction d with
  | zero =>
    intro k i s hd hi hk hs
    obtain ⟨k, rfl⟩ : ∃ m, k = m + 1 := ⟨k - 1, by omega⟩
    have : i = l.length := by omega
    subst this
    simp only [prebendref01_Add.l0]
    rw [if_neg (by omega)]; simp [addS]
  | succ d ih =>
    intro k i s hd hi hk hs
    obtain ⟨k, rfl⟩ : ∃ m, k = m + 1 := ⟨k - 1, by omega⟩
    simp only [prebendref01_Add.l0]
    rw [if_pos (by omega), if_pos (by omega), rd_drop l i (by omega), Fits_eq]
    simp only [Option.bind_some, addS]
    have hs' := (fitB_iff s).1 hs
    by_cases h1 : fitB (rd l i) = true
    · rw [if_pos h1]
      have h1' := (fitB_iff _).1 h1
      rw [wrap_id (s + rd l i) (by omega) (by omega), wrap_id (1152921504606846976 - rd l i) (by omega) (by omega), wrap_id (-1152921504606846976 - rd l i) (by omega) (by omega), wrap_id (↑i + 1) (by omega) (by omega)]
      simp only [h1, Bool.true_and]
      by_cases h2 : fitB (s + rd l i) = true
      · have h2' := (fitB_iff _).1 h2
        have e := ih k (i + 1) _ (by omega) (by omega) (by omega) h2
        rw [if_pos h2]
        rw [← e]
        repeat' split
        all_goals first | rfl | omega
      · have h2' : ¬ _ := fun h => h2 ((fitB_iff _).2 h)
        rw [if_neg h2]
        repeat' split
        all_goals first | rfl | omega
    · rw [if_neg h1]
      simp [h1]
theorem Add_eq (l : List Int) (hl : l.length < 9223372036854775807) (k : Nat) (hk : l.length < k) : prebendref01_Add.f k l = some (addS 0 l) := by
  have := Add_l0 l hl l.length k 0 0 (by omega) (by omega) hk (by decide)
  simpa [prebendref01_Add.f] using this

theorem lfew_eq (l : List S39) : prebendlaw09_few.f l = some (l.take 20) := by
  unfold prebendlaw09_few.f
  by_cases h : (l.length : Int) > 20
  · rw [if_pos h, if_pos (by omega)]
  · rw [if_neg h, List.take_of_length_le (by omega)]
theorem lsome_eq (l : List S37) : prebendlaw09_some.f l = some (l.take 70) := by
  unfold prebendlaw09_some.f
  by_cases h : (l.length : Int) > 70
  · rw [if_pos h, if_pos (by omega)]
  · rw [if_neg h, List.take_of_length_le (by omega)]
theorem rd37_drop (l : List S37) (i : Nat) (h : i < l.length) : l.drop i = rd_T37 l (i : Int) :: l.drop (i + 1) := by
  rw [List.drop_eq_getElem_cons h]; simp [rd_T37, h]
/-- The amounts of an account's legs. -/
def legsOf (l : List S37) (a : Int) : List Int := (l.filter fun x => x.f0 == a).map fun x => x.f1
theorem legsOf_len (l : List S37) (a : Int) : (legsOf l a).length ≤ l.length := by
  unfold legsOf; rw [List.length_map]; exact List.length_filter_le _ _
theorem am_all (l : List S37) (hl : l.length ≤ 1000) (a : Int) : ∀ (d k i : Nat) (acc : List Int), l.length - i = d → i ≤ l.length → acc.length ≤ i → d < k → ledger_amounts.l0 k true a acc l (l.length : Int) (i : Int) = some (acc ++ (l.drop i).map fun x => x.f1) := by
  intro d
  induction d with
  | zero =>
    intro k i acc hd hi ha hk
    obtain ⟨k, rfl⟩ : ∃ m, k = m + 1 := ⟨k - 1, by omega⟩
    simp only [ledger_amounts.l0]
    rw [if_neg (by omega), List.drop_of_length_le (by omega)]; simp
  | succ d ih =>
    intro k i acc hd hi ha hk
    obtain ⟨k, rfl⟩ : ∃ m, k = m + 1 := ⟨k - 1, by omega⟩
    simp only [ledger_amounts.l0]
    rw [if_pos (by omega), if_pos (by omega), if_pos (by omega), if_pos trivial, if_pos (by omega), rd37_drop l i (by omega), wrap_id _ (by omega) (by omega), show ((i : Int) + 1) = ((i + 1 : Nat) : Int) by omega, ih k (i + 1) _ (by omega) (by omega) (by simp; omega) (by omega)]
    simp
theorem am_one (l : List S37) (hl : l.length ≤ 1000) (a : Int) : ∀ (d k i : Nat) (acc : List Int), l.length - i = d → i ≤ l.length → acc.length ≤ i → d < k → ledger_amounts.l0 k false a acc l (l.length : Int) (i : Int) = some (acc ++ legsOf (l.drop i) a) := by
  intro d
  induction d with
  | zero =>
    intro k i acc hd hi ha hk
    obtain ⟨k, rfl⟩ : ∃ m, k = m + 1 := ⟨k - 1, by omega⟩
    simp only [ledger_amounts.l0]
    rw [if_neg (by omega), List.drop_of_length_le (by omega)]; simp [legsOf]
  | succ d ih =>
    intro k i acc hd hi ha hk
    obtain ⟨k, rfl⟩ : ∃ m, k = m + 1 := ⟨k - 1, by omega⟩
    simp only [ledger_amounts.l0]
    rw [if_pos (by omega), if_pos (by omega), if_pos (by omega), if_neg (by simp), rd37_drop l i (by omega), wrap_id _ (by omega) (by omega), show ((i : Int) + 1) = ((i + 1 : Nat) : Int) by omega]
    by_cases h : (rd_T37 l (i : Int)).f0 = a
    · rw [if_pos h, if_pos (by omega), ih k (i + 1) _ (by omega) (by omega) (by simp; omega) (by omega)]
      simp [legsOf, h]
    · rw [if_neg h, ih k (i + 1) _ (by omega) (by omega) (by omega) (by omega)]
      simp [legsOf, h]
theorem amounts_all (l : List S37) (hl : l.length ≤ 1000) (k : Nat) (hk : l.length < k) (a : Int) : ledger_amounts.f k l true a = some (l.map fun x => x.f1) := by
  have := am_all l hl a l.length k 0 [] (by omega) (by omega) (by simp) hk
  unfold ledger_amounts.f; simpa using this
theorem amounts_one (l : List S37) (hl : l.length ≤ 1000) (k : Nat) (hk : l.length < k) (a : Int) : ledger_amounts.f k l false a = some (legsOf l a) := by
  have := am_one l hl a l.length k 0 [] (by omega) (by omega) (by simp) hk
  unfold ledger_amounts.f; simpa using this
theorem addS_sum0 : ∀ (l : List Int) (s v : Int), addS s l = (v, 0) → v = s + l.sum := by
  intro l
  induction l with
  | nil => intro s v h; simp [addS] at h; simp [h]
  | cons x xs ih =>
    intro s v h
    simp only [addS] at h
    split at h
    · rw [ih _ _ h, List.sum_cons]; omega
    · simp at h
theorem addS_app : ∀ (l m : List Int) (s v : Int), addS s l = (v, 0) → addS s (l ++ m) = addS v m := by
  intro l
  induction l with
  | nil => intro m s v h; simp [addS] at h; simp [h]
  | cons x xs ih =>
    intro m s v h
    simp only [addS, List.cons_append] at h ⊢
    split at h
    · rename_i c; rw [if_pos c]; exact ih m _ _ h
    · simp at h
theorem addS_fit : ∀ (l : List Int) (s v : Int), addS s l = (v, 0) → ∀ x ∈ l, fitB x = true := by
  intro l
  induction l with
  | nil => intro s v h x hx; simp at hx
  | cons y ys ih =>
    intro s v h x hx
    simp only [addS] at h
    split at h
    · rename_i c
      simp only [Bool.and_eq_true] at c
      rcases List.mem_cons.1 hx with rfl | hx
      · exact c.1
      · exact ih _ _ h x hx
    · simp at h
theorem addS_err : ∀ (l : List Int) (s : Int), (addS s l).2 = 0 ∨ addS s l = (0, 2) := by
  intro l
  induction l with
  | nil => intro s; exact Or.inl rfl
  | cons y ys ih =>
    intro s
    simp only [addS]
    split
    · exact ih _
    · exact Or.inr rfl
/-- What the legs' own look says: 0, or why they may not be. -/
def mayN (n : Nat) (l : List S37) : List S37 → Int
  | [] => if l.length = 0 ∨ 64 < l.length then 3 else if (addS 0 (l.map fun x => x.f1)).2 = 0 ∧ (addS 0 (l.map fun x => x.f1)).1 ≠ 0 then 3 else (addS 0 (l.map fun x => x.f1)).2
  | x :: xs => if 0 ≤ x.f0 ∧ x.f0 ≤ 3 * (n : Int) then (if x.f1 = 0 then 3 else mayN n l xs) else 4
theorem may_l0 (l1 : List S39) (l : List S37) (hl : l.length ≤ 1000) (hw : ∀ x ∈ l, x.f0 ≤ 9223372036854775807) : ∀ (d k i : Nat), l.length - i = d → i ≤ l.length → d + l.length + 2 < k → ledger_may.l0 k l1 l (i : Int) = some (mayN l1.length l (l.drop i)) := by
  intro d
  induction d with
  | zero =>
    intro k i hd hi hk
    obtain ⟨k, rfl⟩ : ∃ m, k = m + 1 := ⟨k - 1, by omega⟩
    simp only [ledger_may.l0]
    rw [if_neg (by omega), List.drop_of_length_le (by omega)]
    unfold ledger_may.fin
    simp only [mayN]
    by_cases c : l.length = 0 ∨ 64 < l.length
    · rw [if_pos c, if_pos c]
    · rw [if_neg c, if_neg c, amounts_all l hl k (by omega)]
      simp only [Option.bind_some]
      rw [add_eq _ (by rw [List.length_map]; omega) k (by rw [List.length_map]; omega)]
      simp only [Option.bind_some]
  | succ d ih =>
    intro k i hd hi hk
    obtain ⟨k, rfl⟩ : ∃ m, k = m + 1 := ⟨k - 1, by omega⟩
    have hm : rd_T37 l (i : Int) ∈ l := by
      have : rd_T37 l (i : Int) ∈ l.drop i := by rw [rd37_drop l i (by omega)]; simp
      exact List.mem_of_mem_drop this
    simp only [ledger_may.l0]
    rw [if_pos (by omega), if_pos (by omega), if_pos (hw _ hm), rd37_drop l i (by omega)]
    simp only [mayN]
    by_cases c : 0 ≤ (rd_T37 l (i : Int)).f0 ∧ (rd_T37 l (i : Int)).f0 ≤ 3 * (l1.length : Int)
    · rw [if_pos c, if_pos c]
      by_cases c2 : (rd_T37 l (i : Int)).f1 = 0
      · rw [if_pos c2, if_pos c2]
      · rw [if_neg c2, if_neg c2, wrap_id _ (by omega) (by omega), show ((i : Int) + 1) = ((i + 1 : Nat) : Int) by omega, ih k (i + 1) (by omega) (by omega) (by omega)]
    · rw [if_neg c, if_neg c]
theorem may_eq (a0 : Int) (l1 : List S39) (h1 : l1.length < 1000) (l : List S37) (hl : l.length ≤ 1000) (hw : ∀ x ∈ l, x.f0 ≤ 9223372036854775807) (k : Nat) (hk : 2 * l.length + 2 < k) : ledger_may.f k a0 l1 l = some (mayN l1.length l l) := by
  have := may_l0 l1 l hl hw l.length k 0 (by omega) (by omega) (by omega)
  unfold ledger_may.f; rw [if_pos (by omega)]; simpa using this
/-- The amounts behind one account's change. -/
def updW (wd : Int) (i v : Int) : Int := if i = 0 then v else wd
def updO (out : List S39) (i v : Int) : List S39 := if i = 0 then out else setAcct out i v
theorem updO_len (out : List S39) (i v : Int) : (updO out i v).length = out.length := by
  unfold updO; split
  · rfl
  · unfold setAcct; rw [List.length_set]
/-- The posting, account by account. -/
def postS (l : List S37) : Nat → Int → Int → List S39 → Int × List S39 × Int
  | 0, _, wd, out => (wd, out, 0)
  | d + 1, i, wd, out => if legsOf l i = [] then postS l d (i + 1) wd out else
      if (addS 0 (acctOf wd out i :: legsOf l i)).2 = 0 then (if (0 < i ∧ (addS 0 (acctOf wd out i :: legsOf l i)).1 < 0) ∨ (i = 0 ∧ 0 < (addS 0 (acctOf wd out i :: legsOf l i)).1) then (0, [], 7) else postS l d (i + 1) (updW wd i (addS 0 (acctOf wd out i :: legsOf l i)).1) (updO out i (addS 0 (acctOf wd out i :: legsOf l i)).1)) else (0, [], (addS 0 (acctOf wd out i :: legsOf l i)).2)
theorem post_l0 (l : List S37) (hl : l.length ≤ 900) : ∀ (d k : Nat) (i : Int) (wd : Int) (out : List S39), out.length < 1000 → 0 ≤ i → i + (d : Int) = 1 + 3 * (out.length : Int) → d + 2000 < k → ledger_Post.l0 k l wd out i = some (postS l d i wd out) := by
  intro d
  induction d with
  | zero =>
    intro k i wd out ho hi hd hk
    obtain ⟨k, rfl⟩ : ∃ m, k = m + 1 := ⟨k - 1, by omega⟩
    simp only [ledger_Post.l0, postS]
    rw [if_neg (by omega)]
  | succ d ih =>
    intro k i wd out ho hi hd hk
    obtain ⟨k, rfl⟩ : ∃ m, k = m + 1 := ⟨k - 1, by omega⟩
    have hlen := legsOf_len l i
    simp only [ledger_Post.l0, postS]
    rw [if_pos (by omega), if_pos hi, amounts_one l (by omega) k (by omega)]
    simp only [Option.bind_some]
    rw [wrap_id _ (by omega) (by omega)]
    by_cases c : legsOf l i = []
    · rw [if_pos (by rw [c]; rfl), if_pos c]
      exact ih k (i + 1) wd out ho (by omega) (by omega) (by omega)
    · rw [if_neg (fun h => c (List.length_eq_zero_iff.mp h)), if_neg c, if_pos (by omega), add_eq _ (by simp; omega) k (by simp; omega)]
      simp only [Option.bind_some]
      have e := ih k (i + 1) (updW wd i (addS 0 (acctOf wd out i :: legsOf l i)).1) (updO out i (addS 0 (acctOf wd out i :: legsOf l i)).1) (by rw [updO_len]; exact ho) (by omega) (by rw [updO_len]; omega) (by omega)
      unfold updW updO at e ⊢
      rw [e]
      generalize addS 0 (acctOf wd out i :: legsOf l i) = p
      split
      · split <;> rfl
      · rfl
theorem post_eq (a0 : Int) (l1 : List S39) (h1 : l1.length ≤ 30) (l : List S37) (hl : l.length ≤ 900) (hw : ∀ x ∈ l, x.f0 ≤ 9223372036854775807) (k : Nat) (hk : 3000 ≤ k) :
    ledger_Post.f k a0 l1 l = some (if mayN l1.length l l = 0 then postS l (1 + 3 * l1.length) 0 a0 l1 else (0, [], mayN l1.length l l)) := by
  unfold ledger_Post.f
  rw [if_pos (by omega), may_eq a0 l1 (by omega) l (by omega) hw k (by omega)]
  simp only [Option.bind_some]
  rw [post_l0 l hl (1 + 3 * l1.length) k 0 a0 l1 (by omega) (by omega) (by omega) (by omega)]
  split <;> rfl

theorem rd_set39 (out : List S39) (j : Nat) (x : S39) (hj : j < out.length) (b : Int) : rd_T39 (out.set j x) b = if b.toNat = j then x else rd_T39 out b := by
  unfold rd_T39
  by_cases h : b.toNat = j
  · rw [if_pos h, h]; simp [hj]
  · rw [if_neg h]
    simp only [List.getD_eq_getElem?_getD]
    rw [List.getElem?_set_ne (fun e => h e.symm)]
theorem acct_upd (wd : Int) (out : List S39) (i : Int) (h0 : 0 ≤ i) (h1 : i ≤ 3 * (out.length : Int)) (v a : Int) (ha : 0 ≤ a) : acctOf (updW wd i v) (updO out i v) a = if a = i then v else acctOf wd out a := by
  unfold acctOf updW updO
  by_cases hi : i = 0
  · subst hi
    rw [if_pos rfl, if_pos rfl]
    by_cases h : a = 0
    · rw [if_pos h, if_pos h]
    · rw [if_neg h, if_neg h, if_neg h]
  · rw [if_neg hi, if_neg hi]
    by_cases h : a = 0
    · rw [if_pos h, if_pos h, if_neg (by omega)]
    · rw [if_neg h, if_neg h]
      unfold setAcct
      rw [rd_set39 _ _ _ (by omega)]
      by_cases q : ((a - 1) / 3).toNat = ((i - 1) / 3).toNat
      · rw [if_pos q]
        have q2 : (a - 1) / 3 = (i - 1) / 3 := by omega
        rw [← q2]
        have hm : (i - 1) % 3 = 0 ∨ (i - 1) % 3 = 1 ∨ (i - 1) % 3 = 2 := by omega
        have hn : (a - 1) % 3 = 0 ∨ (a - 1) % 3 = 1 ∨ (a - 1) % 3 = 2 := by omega
        by_cases e : a = i
        · subst e
          rw [if_pos rfl]
          rcases hm with hm | hm | hm <;> rw [hm] <;> rfl
        · rw [if_neg e]
          rcases hm with hm | hm | hm <;> rcases hn with hn | hn | hn <;> first | (exfalso; omega) | (rw [hm, hn]; rfl)
      · rw [if_neg q]
        by_cases e : a = i
        · subst e; exact absurd rfl q
        · rw [if_neg e]
theorem oth_upd (out : List S39) (i : Int) (h0 : 0 ≤ i) (h1 : i ≤ 3 * (out.length : Int)) (v : Int) (b : Int) : (rd_T39 (updO out i v) b).f0 = (rd_T39 out b).f0 ∧ (rd_T39 (updO out i v) b).f1 = (rd_T39 out b).f1 ∧ (rd_T39 (updO out i v) b).f2 = (rd_T39 out b).f2 := by
  unfold updO
  by_cases hi : i = 0
  · rw [if_pos hi]; exact ⟨rfl, rfl, rfl⟩
  · rw [if_neg hi]
    unfold setAcct
    rw [rd_set39 _ _ _ (by omega)]
    by_cases q : b.toNat = ((i - 1) / 3).toNat
    · rw [if_pos q]
      have e : rd_T39 out b = rd_T39 out ((i - 1) / 3) := by unfold rd_T39; rw [q]
      rw [e]
      unfold withField
      split
      · exact ⟨rfl, rfl, rfl⟩
      · split <;> exact ⟨rfl, rfl, rfl⟩
    · rw [if_neg q]; exact ⟨rfl, rfl, rfl⟩
/-- What a posting that came through has done. -/
structure Done (l : List S37) (i : Int) (d : Nat) (wd : Int) (out : List S39) (wd' : Int) (out' : List S39) : Prop where
  len : out'.length = out.length
  low : ∀ a, 0 ≤ a → a < i → acctOf wd' out' a = acctOf wd out a
  nil : ∀ a, i ≤ a → a < i + (d : Int) → legsOf l a = [] → acctOf wd' out' a = acctOf wd out a
  sum : ∀ a, i ≤ a → a < i + (d : Int) → legsOf l a ≠ [] → addS 0 (acctOf wd out a :: legsOf l a) = (acctOf wd' out' a, 0)
  pos : ∀ a, i ≤ a → a < i + (d : Int) → legsOf l a ≠ [] → (0 < a → 0 ≤ acctOf wd' out' a) ∧ (a = 0 → acctOf wd' out' a ≤ 0)
  oth : ∀ b, (rd_T39 out' b).f0 = (rd_T39 out b).f0 ∧ (rd_T39 out' b).f1 = (rd_T39 out b).f1 ∧ (rd_T39 out' b).f2 = (rd_T39 out b).f2
theorem post_done (l : List S37) : ∀ (d : Nat) (i : Int) (wd : Int) (out : List S39) (wd' : Int) (out' : List S39), 0 ≤ i → i + (d : Int) = 1 + 3 * (out.length : Int) → postS l d i wd out = (wd', out', 0) → Done l i d wd out wd' out' := by
  intro d
  induction d with
  | zero =>
    intro i wd out wd' out' h0 h1 h
    simp only [postS] at h
    obtain ⟨rfl, rfl, _⟩ : wd = wd' ∧ out = out' ∧ True := by simpa using h
    exact ⟨rfl, fun _ _ _ => rfl, fun a h1 h2 => by omega, fun a h1 h2 => by omega, fun a h1 h2 => by omega, fun _ => ⟨rfl, rfl, rfl⟩⟩
  | succ d ih =>
    intro i wd out wd' out' h0 h1 h
    simp only [postS] at h
    by_cases c : legsOf l i = []
    · rw [if_pos c] at h
      have r := ih (i + 1) wd out wd' out' (by omega) (by omega) h
      refine ⟨r.len, fun a h2 h3 => r.low a h2 (by omega), fun a h2 h3 h4 => ?_, fun a h2 h3 h4 => ?_, fun a h2 h3 h4 => ?_, r.oth⟩
      · by_cases e : a = i
        · exact r.low a (by omega) (by omega)
        · exact r.nil a (by omega) (by omega) h4
      · by_cases e : a = i
        · subst e; exact absurd c h4
        · exact r.sum a (by omega) (by omega) h4
      · by_cases e : a = i
        · subst e; exact absurd c h4
        · exact r.pos a (by omega) (by omega) h4
    · rw [if_neg c] at h
      obtain ⟨p1, p2, hp⟩ : ∃ p1 p2, addS 0 (acctOf wd out i :: legsOf l i) = (p1, p2) := ⟨_, _, rfl⟩
      rw [hp] at h
      simp only at h
      by_cases c2 : p2 = 0
      · rw [if_pos c2] at h
        subst c2
        by_cases c3 : (0 < i ∧ p1 < 0) ∨ (i = 0 ∧ 0 < p1)
        · rw [if_pos c3] at h; simp at h
        · rw [if_neg c3] at h
          have r := ih (i + 1) _ _ wd' out' (by omega) (by rw [updO_len]; omega) h
          have ui := acct_upd wd out i h0 (by omega) p1
          have ei : acctOf wd' out' i = p1 := by rw [r.low i h0 (by omega), ui i h0, if_pos rfl]
          refine ⟨by rw [r.len, updO_len], fun a h2 h3 => ?_, fun a h2 h3 h4 => ?_, fun a h2 h3 h4 => ?_, fun a h2 h3 h4 => ?_, fun b => ?_⟩
          · rw [r.low a h2 (by omega), ui a h2, if_neg (by omega)]
          · by_cases e : a = i
            · subst e; exact absurd h4 c
            · rw [r.nil a (by omega) (by omega) h4, ui a (by omega), if_neg e]
          · by_cases e : a = i
            · subst e; rw [ei]; exact hp
            · have := r.sum a (by omega) (by omega) h4
              rw [ui a (by omega), if_neg e] at this
              exact this
          · by_cases e : a = i
            · subst e; rw [ei]; exact ⟨by omega, by omega⟩
            · exact r.pos a (by omega) (by omega) h4
          · have o := oth_upd out i h0 (by omega) p1 b
            have o2 := r.oth b
            exact ⟨o2.1.trans o.1, o2.2.1.trans o.2.1, o2.2.2.trans o.2.2⟩
      · rw [if_neg c2] at h
        simp at h; exact absurd h.2.2 c2
theorem post_fail (l : List S37) : ∀ (d : Nat) (i : Int) (wd : Int) (out : List S39), (postS l d i wd out).2.2 ≠ 0 → ∃ e, postS l d i wd out = (0, [], e) := by
  intro d
  induction d with
  | zero => intro i wd out h; exact absurd rfl h
  | succ d ih =>
    intro i wd out h
    simp only [postS] at h ⊢
    split
    · rename_i c; rw [if_pos c] at h; exact ih _ _ _ h
    · rename_i c
      rw [if_neg c] at h
      split
      · rename_i c2; rw [if_pos c2] at h
        split
        · exact ⟨7, rfl⟩
        · rename_i c3; rw [if_neg c3] at h; exact ih _ _ _ h
      · exact ⟨_, rfl⟩
theorem may_ok (n : Nat) (l : List S37) : ∀ (m : List S37), mayN n l m = 0 → (∀ x ∈ m, 0 ≤ x.f0 ∧ x.f0 ≤ 3 * (n : Int) ∧ x.f1 ≠ 0) ∧ ¬ (l.length = 0 ∨ 64 < l.length) ∧ addS 0 (l.map fun x => x.f1) = (0, 0) := by
  intro m
  induction m with
  | nil =>
    intro h
    simp only [mayN] at h
    by_cases c : l.length = 0 ∨ 64 < l.length
    · rw [if_pos c] at h; simp at h
    · rw [if_neg c] at h
      refine ⟨fun x hx => by simp at hx, c, ?_⟩
      obtain ⟨p1, p2, hp⟩ : ∃ p1 p2, addS 0 (l.map fun x => x.f1) = (p1, p2) := ⟨_, _, rfl⟩
      rw [hp] at h ⊢
      simp only at h
      by_cases c2 : p2 = 0 ∧ p1 ≠ 0
      · rw [if_pos c2] at h; simp at h
      · rw [if_neg c2] at h
        subst h
        have : p1 = 0 := by
          by_cases q : p1 = 0
          · exact q
          · exact absurd ⟨rfl, q⟩ c2
        rw [this]
  | cons x xs ih =>
    intro h
    simp only [mayN] at h
    by_cases c : 0 ≤ x.f0 ∧ x.f0 ≤ 3 * (n : Int)
    · rw [if_pos c] at h
      by_cases c2 : x.f1 = 0
      · rw [if_pos c2] at h; simp at h
      · rw [if_neg c2] at h
        obtain ⟨r1, r2, r3⟩ := ih h
        refine ⟨fun y hy => ?_, r2, r3⟩
        rcases List.mem_cons.1 hy with rfl | hy
        · exact ⟨c.1, c.2, c2⟩
        · exact r1 y hy
    · rw [if_neg c] at h; simp at h

theorem legsOf_cons (x : S37) (xs : List S37) (a : Int) : legsOf (x :: xs) a = if x.f0 = a then x.f1 :: legsOf xs a else legsOf xs a := by
  unfold legsOf
  by_cases h : x.f0 = a
  · rw [if_pos h]; simp [h]
  · rw [if_neg h]; simp [h]
/-- The legs' amounts of the first accounts. -/
def sumLegs (l : List S37) : Nat → Int
  | 0 => 0
  | n + 1 => sumLegs l n + (legsOf l (n : Int)).sum
theorem sumLegs_nil : ∀ n, sumLegs [] n = 0 := by
  intro n
  induction n with
  | zero => rfl
  | succ n ih => simp only [sumLegs, ih]; rfl
theorem sumLegs_cons (x : S37) (xs : List S37) : ∀ n : Nat, 0 ≤ x.f0 → sumLegs (x :: xs) n = sumLegs xs n + (if x.f0 < (n : Int) then x.f1 else 0) := by
  intro n h
  induction n with
  | zero => simp only [sumLegs]; rw [if_neg (by omega)]; omega
  | succ n ih =>
    simp only [sumLegs, ih, legsOf_cons]
    by_cases c : x.f0 = (n : Int)
    · rw [if_pos c, if_neg (by omega), if_pos (by omega), List.sum_cons]; omega
    · rw [if_neg c]
      by_cases c2 : x.f0 < (n : Int)
      · rw [if_pos c2, if_pos (by omega)]; omega
      · rw [if_neg c2, if_neg (by omega)]; omega
theorem sumLegs_all : ∀ (l : List S37) (n : Nat), (∀ x ∈ l, 0 ≤ x.f0 ∧ x.f0 < (n : Int)) → sumLegs l n = (l.map fun x => x.f1).sum := by
  intro l
  induction l with
  | nil => intro n _; rw [sumLegs_nil]; rfl
  | cons x xs ih =>
    intro n h
    have hx := h x (List.mem_cons_self ..)
    rw [sumLegs_cons x xs n hx.1, if_pos hx.2, ih n fun y hy => h y (List.mem_cons_of_mem _ hy), List.map_cons, List.sum_cons]; omega
theorem wrap_add (x y : Int) : wrap64 (wrap64 x + y) = wrap64 (x + y) := by unfold wrap64; omega
theorem legs_mem (l : List S37) (a : Int) : legsOf l a ≠ [] ↔ ∃ x ∈ l, x.f0 = a := by
  unfold legsOf
  constructor
  · intro h
    by_cases q : ∃ x ∈ l, x.f0 = a
    · exact q
    · exfalso; apply h
      rw [List.map_eq_nil_iff, List.filter_eq_nil_iff]
      intro x hx e
      exact q ⟨x, hx, by simpa using e⟩
  · rintro ⟨x, hx, e⟩ h
    rw [List.map_eq_nil_iff, List.filter_eq_nil_iff] at h
    exact h x hx (by simpa using e)
theorem same_l0 (a b : List S39) (hl : a.length = b.length) (hb : a.length < 9223372036854775807) (h : a = b) : ∀ (d k i : Nat), a.length - i = d → i ≤ a.length → d < k → prebendref09_Same.l0 k a b (i : Int) = some true := by
  subst h
  intro d
  induction d with
  | zero =>
    intro k i hd hi hk
    obtain ⟨k, rfl⟩ : ∃ m, k = m + 1 := ⟨k - 1, by omega⟩
    simp only [prebendref09_Same.l0]; rw [if_neg (by omega)]
  | succ d ih =>
    intro k i hd hi hk
    obtain ⟨k, rfl⟩ : ∃ m, k = m + 1 := ⟨k - 1, by omega⟩
    simp only [prebendref09_Same.l0]
    rw [if_pos (by omega), if_pos (by omega), if_pos (by omega), if_neg (by simp), wrap_id _ (by omega) (by omega), show ((i : Int) + 1) = ((i + 1 : Nat) : Int) by omega]
    exact ih k (i + 1) (by omega) (by omega) (by omega)
theorem same_eq (a : List S39) (hb : a.length < 9223372036854775807) (k : Nat) (hk : a.length < k) : prebendref09_Same.f k a a = some true := by
  unfold prebendref09_Same.f
  rw [if_pos rfl]
  have := same_l0 a a rfl hb rfl a.length k 0 (by omega) (by omega) hk
  simpa using this
theorem amount_eq (a0 : Int) (l : List S39) (hl : l.length ≤ 30) (a : Int) (h0 : 0 ≤ a) (h1 : a ≤ 3 * (l.length : Int)) : ledger_Amount.f a0 l a = some (acctOf a0 l a, 0) := by
  unfold ledger_Amount.f
  rw [if_pos (by omega), if_pos (by omega)]

def flatT : List S39 → List Int
  | [] => []
  | x :: xs => x.f3 :: x.f4 :: x.f5 :: flatT xs
def flatS (a0 : Int) (l : List S39) : List Int := a0 :: flatT l
theorem flatT_len (l : List S39) : (flatT l).length = 3 * l.length := by
  induction l with
  | nil => rfl
  | cons x xs ih => simp only [flatT, List.length_cons, ih]; omega
theorem flatT_app (l m : List S39) : flatT (l ++ m) = flatT l ++ flatT m := by
  induction l with
  | nil => rfl
  | cons x xs ih => simp only [flatT, List.cons_append, ih]
theorem rd39_drop (l : List S39) (i : Nat) (h : i < l.length) : l.drop i = rd_T39 l (i : Int) :: l.drop (i + 1) := by
  rw [List.drop_eq_getElem_cons h]; simp [rd_T39, h]
theorem flat_get : ∀ (l : List S39) (i : Nat), i < l.length → (flatT l)[3 * i]? = some (rd_T39 l (i : Int)).f3 ∧ (flatT l)[3 * i + 1]? = some (rd_T39 l (i : Int)).f4 ∧ (flatT l)[3 * i + 2]? = some (rd_T39 l (i : Int)).f5 := by
  intro l
  induction l with
  | nil => intro i h; simp at h
  | cons x xs ih =>
    intro i h
    cases i with
    | zero => exact ⟨rfl, rfl, rfl⟩
    | succ i =>
      have e := ih i (by simpa using h)
      have hr : rd_T39 (x :: xs) ((i + 1 : Nat) : Int) = rd_T39 xs (i : Int) := by simp [rd_T39]
      rw [hr, show 3 * (i + 1) = 3 * i + 1 + 1 + 1 by omega]
      simp only [flatT, List.getElem?_cons_succ]
      exact e
theorem flat_rd (a0 : Int) (l : List S39) (a : Int) (h0 : 0 ≤ a) (h1 : a ≤ 3 * (l.length : Int)) : rd (flatS a0 l) a = acctOf a0 l a := by
  unfold acctOf flatS
  by_cases c : a = 0
  · subst c; rfl
  · rw [if_neg c]
    obtain ⟨i, hi⟩ : ∃ i : Nat, (a - 1) / 3 = (i : Int) := ⟨((a - 1) / 3).toNat, by omega⟩
    obtain ⟨g1, g2, g3⟩ := flat_get l i (by omega)
    rw [hi]
    have hm : a = 1 + 3 * (i : Int) ∨ a = 2 + 3 * (i : Int) ∨ a = 3 + 3 * (i : Int) := by omega
    unfold rd
    rcases hm with rfl | rfl | rfl
    · rw [show (1 + 3 * (i : Int)).toNat = 3 * i + 1 by omega, show (1 + 3 * (i : Int) - 1) % 3 = 0 by omega, List.getD_cons_succ, List.getD_eq_getElem?_getD, g1]; rfl
    · rw [show (2 + 3 * (i : Int)).toNat = 3 * i + 1 + 1 by omega, show (2 + 3 * (i : Int) - 1) % 3 = 1 by omega, List.getD_cons_succ, List.getD_eq_getElem?_getD, g2]; rfl
    · rw [show (3 + 3 * (i : Int)).toNat = 3 * i + 2 + 1 by omega, show (3 + 3 * (i : Int) - 1) % 3 = 2 by omega, List.getD_cons_succ, List.getD_eq_getElem?_getD, g3]; rfl
theorem flat_l0 (l : List S39) (hl : l.length ≤ 30) : ∀ (d k i : Nat) (acc : List Int), l.length - i = d → i ≤ l.length → acc.length ≤ 1 + 3 * i → d < k → prebendref09_Flat.l0 k l acc (i : Int) = some (acc ++ flatT (l.drop i)) := by
  intro d
  induction d with
  | zero =>
    intro k i acc hd hi ha hk
    obtain ⟨k, rfl⟩ : ∃ m, k = m + 1 := ⟨k - 1, by omega⟩
    simp only [prebendref09_Flat.l0]
    rw [if_neg (by omega), List.drop_of_length_le (by omega)]; simp [flatT]
  | succ d ih =>
    intro k i acc hd hi ha hk
    obtain ⟨k, rfl⟩ : ∃ m, k = m + 1 := ⟨k - 1, by omega⟩
    simp only [prebendref09_Flat.l0, Option.bind_some]
    rw [if_pos (by omega), if_pos (by omega), if_pos (by simp; omega), if_pos (by simp; omega), if_pos (by simp; omega), wrap_id _ (by omega) (by omega), show ((i : Int) + 1) = ((i + 1 : Nat) : Int) by omega, ih k (i + 1) _ (by omega) (by omega) (by simp; omega) (by omega), rd39_drop l i (by omega)]
    simp [flatT]
theorem flat_eq (a0 : Int) (l : List S39) (hl : l.length ≤ 30) (k : Nat) (hk : l.length < k) : prebendref09_Flat.f k a0 l = some (flatS a0 l) := by
  have := flat_l0 l hl l.length k 0 [a0] (by omega) (by omega) (by simp) hk
  unfold prebendref09_Flat.f flatS; simpa using this

theorem awake_up : ∀ j, prebendlaw09_awake.f (200 + j) = some true := by
  intro j
  induction j with
  | zero => decide +kernel
  | succ j ih => exact prebendlaw09_awake.mono (200 + j) _ ih
theorem awake_at (k : Nat) (h : 200 ≤ k) : prebendlaw09_awake.f k = some true := by
  obtain ⟨j, rfl⟩ : ∃ j, k = 200 + j := ⟨k - 200, by omega⟩
  exact awake_up j
theorem flatS_len (a0 : Int) (l : List S39) : (flatS a0 l).length = 1 + 3 * l.length := by unfold flatS; rw [List.length_cons, flatT_len]; omega
theorem rd_set (l : List Int) (j : Nat) (x : Int) (hj : j < l.length) (b : Int) : rd (l.set j x) b = if b.toNat = j then x else rd l b := by
  unfold rd
  by_cases h : b.toNat = j
  · rw [if_pos h, h]; simp [hj]
  · rw [if_neg h]
    simp only [List.getD_eq_getElem?_getD]
    rw [List.getElem?_set_ne (fun e => h e.symm)]
theorem ext_rd (a b : List Int) (hl : a.length = b.length) (h : ∀ i : Nat, i < a.length → rd a (i : Int) = rd b (i : Int)) : a = b := by
  refine List.ext_getElem hl fun i h1 h2 => ?_
  have := h i h1
  simpa [rd, h1, h2] using this
theorem flat_upd (wd : Int) (out : List S39) (i : Int) (h0 : 0 ≤ i) (h1 : i ≤ 3 * (out.length : Int)) (v : Int) : (flatS wd out).set i.toNat v = flatS (updW wd i v) (updO out i v) := by
  refine ext_rd _ _ (by rw [List.length_set, flatS_len, flatS_len, updO_len]) fun j hj => ?_
  rw [List.length_set, flatS_len] at hj
  rw [rd_set _ _ _ (by rw [flatS_len]; omega), flat_rd wd out _ (by omega) (by omega), flat_rd (updW wd i v) (updO out i v) _ (by omega) (by rw [updO_len]; omega), acct_upd wd out i h0 h1 v (j : Int) (by omega)]
  by_cases c : (j : Int) = i
  · rw [if_pos (by omega), if_pos c]
  · rw [if_neg (by omega), if_neg c]
/-- On, or why not. -/
def pickR (r : Option (Int × List S39 × Int)) (e : Int) : Option (Int × List S39 × Int) := if e = 0 then r else some (0, [], e)
theorem pickR_ne (r : Option (Int × List S39 × Int)) (e : Int) (h : e ≠ 0) : pickR r e = some (0, [], e) := by unfold pickR; rw [if_neg h]
/-- The document's look at the legs. -/
theorem rmay_l0 (x1 : List S39) (l : List S37) (hl : l.length ≤ 80) (F : List Int) (hF : F.length = 1 + 3 * x1.length) (R : Nat → Option (Int × List S39 × Int)) (hR : ∀ k, 6000 ≤ k → addS 0 (l.map fun x => x.f1) = (0, 0) → prebendref09_Post.l1 k x1 l F 0 = R 0) : ∀ (d k i : Nat), l.length - i = d → i ≤ l.length → 6100 + 2 * d ≤ k →
    prebendref09_Post.l0 k x1 l F ((l.take i).map fun x => x.f1) (i : Int) = pickR (R 0) (mayN x1.length l (l.drop i)) := by
  intro d
  induction d with
  | zero =>
    intro k i hd hi hk
    obtain ⟨k, rfl⟩ : ∃ m, k = m + 2 := ⟨k - 2, by omega⟩
    simp only [prebendref09_Post.l0]
    rw [if_neg (by omega), List.drop_of_length_le (by omega), List.take_of_length_le (by omega)]
    simp only [mayN, prebendref09_Post.j2]
    by_cases c1 : l.length = 0
    · rw [if_pos (show (l.length : Int) < 1 by omega), if_pos trivial, if_pos (Or.inl c1), pickR_ne _ _ (by omega)]
    · rw [if_neg (show ¬ (l.length : Int) < 1 by omega)]
      by_cases c2 : 64 < l.length
      · rw [decide_eq_true (show (l.length : Int) > 64 by omega), if_pos rfl, if_pos (Or.inr c2), pickR_ne _ _ (by omega)]
      · rw [decide_eq_false (show ¬ (l.length : Int) > 64 by omega), if_neg (by simp), if_neg (show ¬ (l.length = 0 ∨ 64 < l.length) by omega), Add_eq _ (by rw [List.length_map]; omega) k (by rw [List.length_map]; omega), Option.bind_some]
        obtain ⟨p1, p2, hp⟩ : ∃ p1 p2, addS 0 (l.map fun x => x.f1) = (p1, p2) := ⟨_, _, rfl⟩
        rw [hp]
        simp only
        by_cases c3 : p2 = 0
        · rw [if_pos c3]
          by_cases c4 : p1 = 0
          · subst c3; subst c4
            rw [if_pos rfl, if_neg (by simp)]
            unfold pickR
            rw [if_pos rfl]
            exact hR k (by omega) hp
          · rw [if_neg c4, if_pos ⟨c3, c4⟩, pickR_ne _ _ (by omega)]
        · rw [if_neg c3, if_neg (fun q => c3 q.1), pickR_ne _ _ c3]
  | succ d ih =>
    intro k i hd hi hk
    obtain ⟨k, rfl⟩ : ∃ m, k = m + 2 := ⟨k - 2, by omega⟩
    have e := ih k (i + 1) (by omega) (by omega) (by omega)
    have ht : (l.take (i + 1)).map (fun x => x.f1) = (l.take i).map (fun x => x.f1) ++ [(rd_T37 l (i : Int)).f1] := by
      have hi2 : i < l.length := by omega
      have er : rd_T37 l (i : Int) = l[i] := by simp [rd_T37, hi2]
      rw [er, ← List.take_append_getElem hi2, List.map_append]; rfl
    rw [ht] at e
    simp only [prebendref09_Post.l0]
    rw [if_pos (by omega), if_pos (by omega), rd37_drop l i (by omega)]
    simp only [mayN, prebendref09_Post.j1]
    by_cases c1 : (rd_T37 l (i : Int)).f0 < 0
    · rw [if_pos c1, if_pos trivial, if_neg (show ¬ (0 ≤ (rd_T37 l (i : Int)).f0 ∧ (rd_T37 l (i : Int)).f0 ≤ 3 * (x1.length : Int)) by omega), pickR_ne _ _ (by omega)]
    · rw [if_neg c1]
      by_cases c2 : (rd_T37 l (i : Int)).f0 ≥ (F.length : Int)
      · rw [decide_eq_true c2, if_pos rfl, if_neg (show ¬ (0 ≤ (rd_T37 l (i : Int)).f0 ∧ (rd_T37 l (i : Int)).f0 ≤ 3 * (x1.length : Int)) by omega), pickR_ne _ _ (by omega)]
      · rw [decide_eq_false c2, if_neg (by simp), if_pos (show 0 ≤ (i : Int) by omega), if_pos (show (i : Int) < (l.length : Int) by omega), if_pos (show (0 ≤ (rd_T37 l (i : Int)).f0 ∧ (rd_T37 l (i : Int)).f0 ≤ 3 * (x1.length : Int)) by omega)]
        by_cases c3 : (rd_T37 l (i : Int)).f1 = 0
        · rw [if_pos c3, if_pos c3, pickR_ne _ _ (by omega)]
        · rw [if_neg c3, if_neg c3, if_pos (by rw [List.length_map, List.length_take]; omega), wrap_id _ (by omega) (by omega), show ((i : Int) + 1) = ((i + 1 : Nat) : Int) by omega]
          exact e
theorem rlegs_l2 (x1 : List S39) (l : List S37) (hl : l.length ≤ 80) (F : List Int) (a : Int) (m : Nat) : ∀ (d i : Nat) (acc : List Int), l.length - i = d → i ≤ l.length → acc.length ≤ 1 + i →
    prebendref09_Post.l2 (m + d + 1) x1 l F a acc (i : Int) = prebendref09_Post.l2 (m + 1) x1 l F a (acc ++ legsOf (l.drop i) a) (l.length : Int) := by
  intro d
  induction d with
  | zero =>
    intro i acc hd hi ha
    rw [List.drop_of_length_le (by omega), show i = l.length by omega]
    simp [legsOf]
  | succ d ih =>
    intro i acc hd hi ha
    have e := ih (i + 1)
    rw [show m + (d + 1) + 1 = (m + d + 1) + 1 by omega]
    generalize hK : m + d + 1 = K at e
    rw [rd37_drop l i (by omega), legsOf_cons]
    conv => lhs; simp only [prebendref09_Post.l2]
    rw [if_pos (by omega), if_pos (by omega), wrap_id _ (by omega) (by omega), show ((i : Int) + 1) = ((i + 1 : Nat) : Int) by omega]
    by_cases c : (rd_T37 l (i : Int)).f0 = a
    · rw [if_pos c, if_pos c, if_pos (by omega), e _ (by omega) (by omega) (by simp; omega)]
      simp
    · rw [if_neg c, if_neg c, e _ (by omega) (by omega) (by omega)]
theorem mid_set (x1 out : List S39) (i : Nat) (hl : out.length = x1.length) (hi : i < x1.length) : (out.take i ++ x1.drop i).set i (rd_T39 out (i : Int)) = out.take (i + 1) ++ x1.drop (i + 1) := by
  have h1 : i < out.length := by omega
  have e : rd_T39 out (i : Int) = out[i] := by simp [rd_T39, h1]
  rw [e, List.drop_eq_getElem_cons hi, ← List.take_append_getElem h1]
  rw [List.set_append_right _ _ (by rw [List.length_take]; omega), List.length_take, show i - min i out.length = 0 by omega, List.set_cons_zero, List.append_assoc]
  rfl
theorem wrap_3 (c i : Int) (h0 : 0 ≤ c) (h1 : c ≤ 10) (h2 : 0 ≤ i) (h3 : i ≤ 1000) : wrap64 (c + wrap64 (3 * i)) = c + 3 * i := by
  rw [wrap_id (3 * i) (by omega) (by omega), wrap_id _ (by omega) (by omega)]
theorem rpost_l3 (wd : Int) (x1 out : List S39) (hl : out.length = x1.length) (h20 : x1.length ≤ 20) (ho : ∀ b, (rd_T39 out b).f0 = (rd_T39 x1 b).f0 ∧ (rd_T39 out b).f1 = (rd_T39 x1 b).f1 ∧ (rd_T39 out b).f2 = (rd_T39 x1 b).f2) : ∀ (d k i : Nat), x1.length - i = d → i ≤ x1.length → d < k →
    prebendref09_Post.l3 k (flatS wd out) (out.take i ++ x1.drop i) (i : Int) = some (wd, out, 0) := by
  have hF := flatS_len wd out
  intro d
  induction d with
  | zero =>
    intro k i hd hi hk
    obtain ⟨k, rfl⟩ : ∃ m, k = m + 1 := ⟨k - 1, by omega⟩
    simp only [prebendref09_Post.l3]
    rw [if_neg (by rw [List.length_append, List.length_take, List.length_drop]; omega), if_pos (by omega), List.drop_of_length_le (by omega), List.take_of_length_le (by omega), List.append_nil]
    rfl
  | succ d ih =>
    intro k i hd hi hk
    obtain ⟨k, rfl⟩ : ∃ m, k = m + 1 := ⟨k - 1, by omega⟩
    have hlen : (out.take i ++ x1.drop i).length = x1.length := by rw [List.length_append, List.length_take, List.length_drop]; omega
    have e := ih k (i + 1) (by omega) (by omega) (by omega)
    have w1 := wrap_3 1 (i : Int) (by omega) (by omega) (by omega) (by omega)
    have w2 := wrap_3 2 (i : Int) (by omega) (by omega) (by omega) (by omega)
    have w3 := wrap_3 3 (i : Int) (by omega) (by omega) (by omega) (by omega)
    simp only [prebendref09_Post.l3, w1, w2, w3]
    rw [if_pos (by omega), if_pos (by omega), if_pos (by omega), if_pos (by omega), if_pos (by omega), if_pos (by omega), if_pos (by omega), if_pos (by omega), Option.bind_some, Option.bind_some]
    rw [show ((i : Int)).toNat = i by omega]
    have g : rd_T39 (out.take i ++ x1.drop i) (i : Int) = rd_T39 x1 (i : Int) := by
      have h1 : i < x1.length := by omega
      unfold rd_T39
      simp only [List.getD_eq_getElem?_getD, Int.toNat_natCast]
      rw [List.getElem?_append_right (by rw [List.length_take]; omega), List.length_take, List.getElem?_drop, show i + (i - min i out.length) = i by omega]
    have s1 : ∀ (T : List S39) (x : S39), i < T.length → rd_T39 (T.set i x) (i : Int) = x := by
      intro T x hT; rw [rd_set39 _ _ _ hT, if_pos (by omega)]
    rw [s1 _ _ (by first | omega | (simp only [List.length_set]; omega)), List.set_set, s1 _ _ (by first | omega | (simp only [List.length_set]; omega)), List.set_set, g]
    have fr : ∀ a : Int, 0 ≤ a → a ≤ 3 * (out.length : Int) → rd (flatS wd out) a = acctOf wd out a := fun a h1 h2 => flat_rd wd out a h1 h2
    rw [fr _ (by omega) (by omega), fr _ (by omega) (by omega), fr _ (by omega) (by omega)]
    have o := ho (i : Int)
    have hx : (⟨(rd_T39 x1 (i : Int)).f0, (rd_T39 x1 (i : Int)).f1, (rd_T39 x1 (i : Int)).f2, acctOf wd out (1 + 3 * (i : Int)), acctOf wd out (2 + 3 * (i : Int)), acctOf wd out (3 + 3 * (i : Int))⟩ : S39) = rd_T39 out (i : Int) := by
      rw [← o.1, ← o.2.1, ← o.2.2]
      unfold acctOf
      rw [if_neg (by omega), if_neg (by omega), if_neg (by omega), show (1 + 3 * (i : Int) - 1) / 3 = (i : Int) by omega, show (2 + 3 * (i : Int) - 1) / 3 = (i : Int) by omega, show (3 + 3 * (i : Int) - 1) / 3 = (i : Int) by omega, show (1 + 3 * (i : Int) - 1) % 3 = 0 by omega, show (2 + 3 * (i : Int) - 1) % 3 = 1 by omega, show (3 + 3 * (i : Int) - 1) % 3 = 2 by omega]
      rfl
    rw [hx, mid_set x1 out i hl (by omega), wrap_id _ (by omega) (by omega), show ((i : Int) + 1) = ((i + 1 : Nat) : Int) by omega]
    exact e
theorem rpost_l1 (x1 : List S39) (h20 : x1.length ≤ 20) (l : List S37) (hl : l.length ≤ 80) : ∀ (d k : Nat) (i wd : Int) (out : List S39), out.length = x1.length → (∀ b, (rd_T39 out b).f0 = (rd_T39 x1 b).f0 ∧ (rd_T39 out b).f1 = (rd_T39 x1 b).f1 ∧ (rd_T39 out b).f2 = (rd_T39 x1 b).f2) → 0 ≤ i → i + (d : Int) = 1 + 3 * (out.length : Int) → 200 + 90 * d ≤ k →
    prebendref09_Post.l1 k x1 l (flatS wd out) i = some (postS l d i wd out) := by
  intro d
  induction d with
  | zero =>
    intro k i wd out hlen ho h0 h1 hk
    obtain ⟨k, rfl⟩ : ∃ m, k = m + 1 := ⟨k - 1, by omega⟩
    have e := rpost_l3 wd x1 out hlen h20 ho x1.length k 0 (by omega) (by omega) (by omega)
    simp only [prebendref09_Post.l1, postS]
    rw [if_neg (by rw [flatS_len]; omega), Option.bind_some, if_pos (by simp; omega)]
    simpa using e
  | succ d ih =>
    intro k i wd out hlen ho h0 h1 hk
    obtain ⟨m, rfl⟩ : ∃ m, k = (m + l.length + 1) + 1 := ⟨k - l.length - 2, by omega⟩
    have e2 := rlegs_l2 x1 l hl (flatS wd out) i m l.length 0 [rd (flatS wd out) i] (by omega) (by omega) (by simp)
    rw [List.drop_zero, show ((0 : Nat) : Int) = 0 by rfl] at e2
    generalize m + l.length + 1 = K at e2
    have hF := flatS_len wd out
    have hlo := legsOf_len l i
    simp only [prebendref09_Post.l1, postS]
    rw [if_pos (by omega), if_pos h0, e2]
    simp only [prebendref09_Post.l2]
    rw [if_neg (by omega), flat_rd wd out i h0 (by omega)]
    by_cases c : legsOf l i = []
    · rw [if_pos c, c, if_pos (by simp), wrap_id _ (by omega) (by omega)]
      exact ih m (i + 1) wd out hlen ho (by omega) (by omega) (by omega)
    · have hne : 0 < (legsOf l i).length := List.length_pos_iff.mpr c
      rw [if_neg c, if_neg (by simp; omega), Add_eq _ (by simp; omega) m (by simp; omega), Option.bind_some]
      rw [show [acctOf wd out i] ++ legsOf l i = acctOf wd out i :: legsOf l i from rfl]
      obtain ⟨p1, p2, hp⟩ : ∃ p1 p2, addS 0 (acctOf wd out i :: legsOf l i) = (p1, p2) := ⟨_, _, rfl⟩
      rw [hp]
      simp only
      by_cases c2 : p2 = 0
      · rw [if_pos c2, if_pos c2, flat_upd wd out i h0 (by omega) p1, wrap_id _ (by omega) (by omega)]
        have e := ih m (i + 1) (updW wd i p1) (updO out i p1) (by rw [updO_len]; exact hlen) (fun b => by
          have o1 := oth_upd out i h0 (by omega) p1 b
          have o2 := ho b
          exact ⟨o1.1.trans o2.1, o1.2.1.trans o2.2.1, o1.2.2.trans o2.2.2⟩) (by omega) (by rw [updO_len]; omega) (by omega)
        rw [e]
        by_cases z : i = 0
        · rw [if_pos z]
          by_cases q : p1 > 0
          · rw [if_pos q, if_pos (Or.inr ⟨z, q⟩)]
          · rw [if_neg q, if_neg (show ¬ i > 0 by omega), if_pos h0, if_pos (by omega), if_neg (by omega)]
        · rw [if_neg z, if_pos (show i > 0 by omega)]
          by_cases q : p1 < 0
          · rw [if_pos q, if_pos (Or.inl ⟨by omega, q⟩)]
          · rw [if_neg q, if_pos h0, if_pos (by omega), if_neg (by omega)]
      · rw [if_neg c2, if_neg c2]
theorem rpost_eq (a0 : Int) (x : List S39) (hx : x.length ≤ 20) (l : List S37) (hl : l.length ≤ 80) (k : Nat) (hk : 9000 ≤ k) : prebendref09_Post.f k a0 x l = some (if mayN x.length l l = 0 then postS l (1 + 3 * x.length) 0 a0 x else (0, [], mayN x.length l l)) := by
  unfold prebendref09_Post.f
  rw [flat_eq a0 x (by omega) k (by omega), Option.bind_some]
  have hR : ∀ k, 6000 ≤ k → prebendref09_Post.l1 k x l (flatS a0 x) 0 = some (postS l (1 + 3 * x.length) 0 a0 x) := fun k hk => rpost_l1 x hx l hl (1 + 3 * x.length) k 0 a0 x rfl (fun _ => ⟨rfl, rfl, rfl⟩) (by omega) (by omega) (by omega)
  have := rmay_l0 x l hl (flatS a0 x) (flatS_len a0 x) (fun _ => some (postS l (1 + 3 * x.length) 0 a0 x)) (fun k hk _ => hR k (by omega)) l.length k 0 (by omega) (by omega) (by omega)
  rw [List.drop_zero] at this
  rw [show (l.take 0).map (fun x => x.f1) = [] from rfl, show ((0 : Nat) : Int) = 0 from rfl] at this
  rw [this]
  unfold pickR
  split <;> rfl
theorem wf64 (x : Int) (h : (Lit.int .i64 x).wf = true) : x ≤ 9223372036854775807 := by
  simp only [Lit.wf, Bool.and_eq_true, decide_eq_true_eq] at h
  have e2 : IntKind.i64.max = 9223372036854775807 := by decide +kernel
  omega
theorem post_len (l : List S37) (d : Nat) (wd : Int) (out : List S39) (hd : (d : Int) = 1 + 3 * (out.length : Int)) : (postS l d 0 wd out).2.1.length ≤ out.length := by
  by_cases c2 : (postS l d 0 wd out).2.2 = 0
  · obtain ⟨wd', out', e'⟩ : ∃ wd' out', postS l d 0 wd out = (wd', out', 0) := ⟨_, _, Prod.ext rfl (Prod.ext rfl c2)⟩
    have D := post_done l d 0 wd out wd' out' (by omega) (by omega) e'
    rw [e']; exact Nat.le_of_eq D.len
  · obtain ⟨e, he⟩ := post_fail _ _ _ _ _ c2
    rw [he]; exact Nat.zero_le _
theorem posts_at (K : Nat) (hK : 9000 ≤ K) (a0 : Int) (l1 : List S39) (l2 : List S37) (w2 : l2.length ≤ maxLen ∧ ∀ y ∈ l2, g37 y) : prebendlaw09_LedgerPosts.f K a0 l1 l2 = some true := by
  have hl : (l1.take 20).length ≤ 20 := by rw [List.length_take]; omega
  have hm : (l2.take 70).length ≤ 70 := by rw [List.length_take]; omega
  have hw : ∀ x ∈ l2.take 70, x.f0 ≤ 9223372036854775807 := fun x hx => wf64 _ (w2.2 x (List.mem_of_mem_take hx)).1
  unfold prebendlaw09_LedgerPosts.f
  rw [lfew_eq, Option.bind_some, lsome_eq, Option.bind_some]
  generalize l1.take 20 = x at hl
  generalize l2.take 70 = l at hm hw
  rw [post_eq a0 x (by omega) l (by omega) hw K (by omega), Option.bind_some, Option.bind_some, Option.bind_some, rpost_eq a0 x hl l (by omega) K (by omega), Option.bind_some, awake_at K (by omega), Option.bind_some, if_pos rfl, if_pos rfl]
  have hlen : (if mayN x.length l l = 0 then postS l (1 + 3 * x.length) 0 a0 x else (0, [], mayN x.length l l)).2.1.length ≤ 20 := by
    split
    · exact Nat.le_trans (post_len l _ a0 x (by omega)) hl
    · exact Nat.zero_le _
  rw [same_eq _ (by omega) K (by omega), Option.bind_some, if_pos rfl]
  simp
theorem LedgerPosts : prebendlaw09_LedgerPosts.Pure := fun a0 l1 l2 _ _ w2 => ⟨9000, posts_at 9000 (Nat.le_refl _) a0 l1 l2 w2⟩

end Go.Proofs.Ytkjkonkgcepanaa.Pure
