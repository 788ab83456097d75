/- What is handed in stays as it was: what the walk needs of the posting, for all amounts and legs that a call may be handed; no conditions. -/
import Derived.Test.YtkjkonkgcepanaaOwnWalk
import Derived.Laws.BitsLemmas
set_option linter.unusedVariables false
set_option linter.unusedSimpArgs false
namespace Go.Proofs.Ytkjkonkgcepanaa.Pure
open Go Go.RowKit Go.Proofs.Ytkjkonkgcepanaa.PAll Go.Proofs.YtkjkonkgcepanaaW.PrintWords Go.Proofs.YtkjkonkgcepanaaW.PrintLast

def fitB (n : Int) : Bool := decide (-1152921504606846976 ≤ n) && decide (n ≤ 1152921504606846976)
theorem fitB_iff (n : Int) : fitB n = true ↔ -1152921504606846976 ≤ n ∧ n ≤ 1152921504606846976 := by simp [fitB]
theorem rd_drop (l : List Int) (i : Nat) (h : i < l.length) : l.drop i = rd l (i : Int) :: l.drop (i + 1) := by
  rw [List.drop_eq_getElem_cons h]; simp [rd, h]
theorem wrap_id (n : Int) (h : -9223372036854775808 ≤ n) (h2 : n < 9223372036854775808) : wrap64 n = n := by unfold wrap64; omega

theorem fits_eq (n : Int) : money_fits.f n = some (fitB n) := by
  unfold money_fits.f fitB
  by_cases h : n ≥ -1152921504606846976
  · rw [if_pos h]; simp [h]
  · rw [if_neg h]; simp [h]

def addS : Int → List Int → Int × Int
  | s, [] => (s, 0)
  | s, x :: xs => if fitB x && fitB (s + x) then addS (s + x) xs else (0, 2)

theorem add_l0 (l : List Int) (hl : l.length < 9223372036854775807) (d : Nat) : ∀ (k i : Nat) (s : Int), l.length - i = d → i ≤ l.length → d < k → fitB s = true →
    money_Add.l0 k s l (l.length : Int) (i : Int) = some (addS s (l.drop i)) := by
  induction d with
  | zero =>
    intro k i s hd hi hk hs
    obtain ⟨k, rfl⟩ : ∃ m, k = m + 1 := ⟨k - 1, by omega⟩
    have : i = l.length := by omega
    subst this
    simp only [money_Add.l0]
    rw [if_neg (by omega)]; simp [addS]
  | succ d ih =>
    intro k i s hd hi hk hs
    obtain ⟨k, rfl⟩ : ∃ m, k = m + 1 := ⟨k - 1, by omega⟩
    simp only [money_Add.l0]
    rw [if_pos (by omega), if_pos (by omega), if_pos (by omega), rd_drop l i (by omega), fits_eq]
    simp only [Option.bind_some, addS]
    have hs' := (fitB_iff s).1 hs
    by_cases h1 : fitB (rd l i) = true
    · rw [if_pos h1]
      have h1' := (fitB_iff _).1 h1
      rw [wrap_id (s + rd l i) (by omega) (by omega), fits_eq]
      simp only [Option.bind_some, h1, Bool.true_and]
      by_cases h2 : fitB (s + rd l i) = true
      · rw [if_pos h2, if_pos h2, wrap_id (↑i + 1) (by omega) (by omega)]
        exact ih k (i + 1) _ (by omega) (by omega) (by omega) h2
      · rw [if_neg h2, if_neg h2]
    · rw [if_neg h1]
      simp [h1]
theorem add_eq (l : List Int) (hl : l.length < 9223372036854775807) (k : Nat) (hk : l.length < k) : money_Add.f k l = some (addS 0 l) := by
  have := add_l0 l hl l.length k 0 0 (by omega) (by omega) hk (by decide)
  simpa [money_Add.f] using this

theorem rd37_drop (l : List S37) (i : Nat) (h : i < l.length) : l.drop i = rd_T37 l (i : Int) :: l.drop (i + 1) := by
  rw [List.drop_eq_getElem_cons h]; simp [rd_T37, h]
/-- The amounts of an account's legs. -/
def legsOf (l : List S37) (a : Int) : List Int := (l.filter fun x => x.f0 == a).map fun x => x.f1
theorem legsOf_len (l : List S37) (a : Int) : (legsOf l a).length ≤ l.length := by
  unfold legsOf; rw [List.length_map]; exact List.length_filter_le _ _
theorem am_all (l : List S37) (hl : l.length ≤ 1000) (a : Int) : ∀ (d k i : Nat) (acc : List Int), l.length - i = d → i ≤ l.length → acc.length ≤ i → d < k → ledger_amounts.l0 k true a acc l (l.length : Int) (i : Int) = some (acc ++ (l.drop i).map fun x => x.f1) := by
  intro d
  induction d with
  | zero =>
    intro k i acc hd hi ha hk
    obtain ⟨k, rfl⟩ : ∃ m, k = m + 1 := ⟨k - 1, by omega⟩
    simp only [ledger_amounts.l0]
    rw [if_neg (by omega), List.drop_of_length_le (by omega)]; simp
  | succ d ih =>
    intro k i acc hd hi ha hk
    obtain ⟨k, rfl⟩ : ∃ m, k = m + 1 := ⟨k - 1, by omega⟩
    simp only [ledger_amounts.l0]
    rw [if_pos (by omega), if_pos (by omega), if_pos (by omega), if_pos trivial, if_pos (by omega), rd37_drop l i (by omega), wrap_id _ (by omega) (by omega), show ((i : Int) + 1) = ((i + 1 : Nat) : Int) by omega, ih k (i + 1) _ (by omega) (by omega) (by simp; omega) (by omega)]
    simp
theorem am_one (l : List S37) (hl : l.length ≤ 1000) (a : Int) : ∀ (d k i : Nat) (acc : List Int), l.length - i = d → i ≤ l.length → acc.length ≤ i → d < k → ledger_amounts.l0 k false a acc l (l.length : Int) (i : Int) = some (acc ++ legsOf (l.drop i) a) := by
  intro d
  induction d with
  | zero =>
    intro k i acc hd hi ha hk
    obtain ⟨k, rfl⟩ : ∃ m, k = m + 1 := ⟨k - 1, by omega⟩
    simp only [ledger_amounts.l0]
    rw [if_neg (by omega), List.drop_of_length_le (by omega)]; simp [legsOf]
  | succ d ih =>
    intro k i acc hd hi ha hk
    obtain ⟨k, rfl⟩ : ∃ m, k = m + 1 := ⟨k - 1, by omega⟩
    simp only [ledger_amounts.l0]
    rw [if_pos (by omega), if_pos (by omega), if_pos (by omega), if_neg (by simp), rd37_drop l i (by omega), wrap_id _ (by omega) (by omega), show ((i : Int) + 1) = ((i + 1 : Nat) : Int) by omega]
    by_cases h : (rd_T37 l (i : Int)).f0 = a
    · rw [if_pos h, if_pos (by omega), ih k (i + 1) _ (by omega) (by omega) (by simp; omega) (by omega)]
      simp [legsOf, h]
    · rw [if_neg h, ih k (i + 1) _ (by omega) (by omega) (by omega) (by omega)]
      simp [legsOf, h]
theorem amounts_all (l : List S37) (hl : l.length ≤ 1000) (k : Nat) (hk : l.length < k) (a : Int) : ledger_amounts.f k l true a = some (l.map fun x => x.f1) := by
  have := am_all l hl a l.length k 0 [] (by omega) (by omega) (by simp) hk
  unfold ledger_amounts.f; simpa using this
theorem amounts_one (l : List S37) (hl : l.length ≤ 1000) (k : Nat) (hk : l.length < k) (a : Int) : ledger_amounts.f k l false a = some (legsOf l a) := by
  have := am_one l hl a l.length k 0 [] (by omega) (by omega) (by simp) hk
  unfold ledger_amounts.f; simpa using this
theorem addS_sum0 : ∀ (l : List Int) (s v : Int), addS s l = (v, 0) → v = s + l.sum := by
  intro l
  induction l with
  | nil => intro s v h; simp [addS] at h; simp [h]
  | cons x xs ih =>
    intro s v h
    simp only [addS] at h
    split at h
    · rw [ih _ _ h, List.sum_cons]; omega
    · simp at h
theorem addS_app : ∀ (l m : List Int) (s v : Int), addS s l = (v, 0) → addS s (l ++ m) = addS v m := by
  intro l
  induction l with
  | nil => intro m s v h; simp [addS] at h; simp [h]
  | cons x xs ih =>
    intro m s v h
    simp only [addS, List.cons_append] at h ⊢
    split at h
    · rename_i c; rw [if_pos c]; exact ih m _ _ h
    · simp at h
theorem addS_fit : ∀ (l : List Int) (s v : Int), addS s l = (v, 0) → ∀ x ∈ l, fitB x = true := by
  intro l
  induction l with
  | nil => intro s v h x hx; simp at hx
  | cons y ys ih =>
    intro s v h x hx
    simp only [addS] at h
    split at h
    · rename_i c
      simp only [Bool.and_eq_true] at c
      rcases List.mem_cons.1 hx with rfl | hx
      · exact c.1
      · exact ih _ _ h x hx
    · simp at h
theorem addS_err : ∀ (l : List Int) (s : Int), (addS s l).2 = 0 ∨ addS s l = (0, 2) := by
  intro l
  induction l with
  | nil => intro s; exact Or.inl rfl
  | cons y ys ih =>
    intro s
    simp only [addS]
    split
    · exact ih _
    · exact Or.inr rfl
/-- What the legs' own look says: 0, or why they may not be. -/
def mayN (n : Nat) (l : List S37) : List S37 → Int
  | [] => if l.length = 0 ∨ 64 < l.length then 3 else if (addS 0 (l.map fun x => x.f1)).2 = 0 ∧ (addS 0 (l.map fun x => x.f1)).1 ≠ 0 then 3 else (addS 0 (l.map fun x => x.f1)).2
  | x :: xs => if 0 ≤ x.f0 ∧ x.f0 ≤ 3 * (n : Int) then (if x.f1 = 0 then 3 else mayN n l xs) else 4
theorem may_l0 (l1 : List S39) (l : List S37) (hl : l.length ≤ 1000) (hw : ∀ x ∈ l, x.f0 ≤ 9223372036854775807) : ∀ (d k i : Nat), l.length - i = d → i ≤ l.length → d + l.length + 2 < k → ledger_may.l0 k l1 l (i : Int) = some (mayN l1.length l (l.drop i)) := by
  intro d
  induction d with
  | zero =>
    intro k i hd hi hk
    obtain ⟨k, rfl⟩ : ∃ m, k = m + 1 := ⟨k - 1, by omega⟩
    simp only [ledger_may.l0]
    rw [if_neg (by omega), List.drop_of_length_le (by omega)]
    unfold ledger_may.fin
    simp only [mayN]
    by_cases c : l.length = 0 ∨ 64 < l.length
    · rw [if_pos c, if_pos c]
    · rw [if_neg c, if_neg c, amounts_all l hl k (by omega)]
      simp only [Option.bind_some]
      rw [add_eq _ (by rw [List.length_map]; omega) k (by rw [List.length_map]; omega)]
      simp only [Option.bind_some]
  | succ d ih =>
    intro k i hd hi hk
    obtain ⟨k, rfl⟩ : ∃ m, k = m + 1 := ⟨k - 1, by omega⟩
    have hm : rd_T37 l (i : Int) ∈ l := by
      have : rd_T37 l (i : Int) ∈ l.drop i := by rw [rd37_drop l i (by omega)]; simp
      exact List.mem_of_mem_drop this
    simp only [ledger_may.l0]
    rw [if_pos (by omega), if_pos (by omega), if_pos (hw _ hm), rd37_drop l i (by omega)]
    simp only [mayN]
    by_cases c : 0 ≤ (rd_T37 l (i : Int)).f0 ∧ (rd_T37 l (i : Int)).f0 ≤ 3 * (l1.length : Int)
    · rw [if_pos c, if_pos c]
      by_cases c2 : (rd_T37 l (i : Int)).f1 = 0
      · rw [if_pos c2, if_pos c2]
      · rw [if_neg c2, if_neg c2, wrap_id _ (by omega) (by omega), show ((i : Int) + 1) = ((i + 1 : Nat) : Int) by omega, ih k (i + 1) (by omega) (by omega) (by omega)]
    · rw [if_neg c, if_neg c]
theorem may_eq (a0 : Int) (l1 : List S39) (h1 : l1.length < 1000) (l : List S37) (hl : l.length ≤ 1000) (hw : ∀ x ∈ l, x.f0 ≤ 9223372036854775807) (k : Nat) (hk : 2 * l.length + 2 < k) : ledger_may.f k a0 l1 l = some (mayN l1.length l l) := by
  have := may_l0 l1 l hl hw l.length k 0 (by omega) (by omega) (by omega)
  unfold ledger_may.f; rw [if_pos (by omega)]; simpa using this
/-- The amounts behind one account's change. -/
def updW (wd : Int) (i v : Int) : Int := if i = 0 then v else wd
def updO (out : List S39) (i v : Int) : List S39 := if i = 0 then out else setAcct out i v
theorem updO_len (out : List S39) (i v : Int) : (updO out i v).length = out.length := by
  unfold updO; split
  · rfl
  · unfold setAcct; rw [List.length_set]
/-- The posting, account by account. -/
def postS (l : List S37) : Nat → Int → Int → List S39 → Int × List S39 × Int
  | 0, _, wd, out => (wd, out, 0)
  | d + 1, i, wd, out => if legsOf l i = [] then postS l d (i + 1) wd out else
      if (addS 0 (acctOf wd out i :: legsOf l i)).2 = 0 then (if (0 < i ∧ (addS 0 (acctOf wd out i :: legsOf l i)).1 < 0) ∨ (i = 0 ∧ 0 < (addS 0 (acctOf wd out i :: legsOf l i)).1) then (0, [], 7) else postS l d (i + 1) (updW wd i (addS 0 (acctOf wd out i :: legsOf l i)).1) (updO out i (addS 0 (acctOf wd out i :: legsOf l i)).1)) else (0, [], (addS 0 (acctOf wd out i :: legsOf l i)).2)
theorem post_l0 (l : List S37) (hl : l.length ≤ 900) : ∀ (d k : Nat) (i : Int) (wd : Int) (out : List S39), out.length < 1000 → 0 ≤ i → i + (d : Int) = 1 + 3 * (out.length : Int) → d + 2000 < k → ledger_Post.l0 k l wd out i = some (postS l d i wd out) := by
  intro d
  induction d with
  | zero =>
    intro k i wd out ho hi hd hk
    obtain ⟨k, rfl⟩ : ∃ m, k = m + 1 := ⟨k - 1, by omega⟩
    simp only [ledger_Post.l0, postS]
    rw [if_neg (by omega)]
  | succ d ih =>
    intro k i wd out ho hi hd hk
    obtain ⟨k, rfl⟩ : ∃ m, k = m + 1 := ⟨k - 1, by omega⟩
    have hlen := legsOf_len l i
    simp only [ledger_Post.l0, postS]
    rw [if_pos (by omega), if_pos hi, amounts_one l (by omega) k (by omega)]
    simp only [Option.bind_some]
    rw [wrap_id _ (by omega) (by omega)]
    by_cases c : legsOf l i = []
    · rw [if_pos (by rw [c]; rfl), if_pos c]
      exact ih k (i + 1) wd out ho (by omega) (by omega) (by omega)
    · rw [if_neg (fun h => c (List.length_eq_zero_iff.mp h)), if_neg c, if_pos (by omega), add_eq _ (by simp; omega) k (by simp; omega)]
      simp only [Option.bind_some]
      have e := ih k (i + 1) (updW wd i (addS 0 (acctOf wd out i :: legsOf l i)).1) (updO out i (addS 0 (acctOf wd out i :: legsOf l i)).1) (by rw [updO_len]; exact ho) (by omega) (by rw [updO_len]; omega) (by omega)
      unfold updW updO at e ⊢
      rw [e]
      generalize addS 0 (acctOf wd out i :: legsOf l i) = p
      split
      · split <;> rfl
      · rfl
theorem post_eq (a0 : Int) (l1 : List S39) (h1 : l1.length ≤ 30) (l : List S37) (hl : l.length ≤ 900) (hw : ∀ x ∈ l, x.f0 ≤ 9223372036854775807) (k : Nat) (hk : 3000 ≤ k) :
    ledger_Post.f k a0 l1 l = some (if mayN l1.length l l = 0 then postS l (1 + 3 * l1.length) 0 a0 l1 else (0, [], mayN l1.length l l)) := by
  unfold ledger_Post.f
  rw [if_pos (by omega), may_eq a0 l1 (by omega) l (by omega) hw k (by omega)]
  simp only [Option.bind_some]
  rw [post_l0 l hl (1 + 3 * l1.length) k 0 a0 l1 (by omega) (by omega) (by omega) (by omega)]
  split <;> rfl

theorem rd_set39 (out : List S39) (j : Nat) (x : S39) (hj : j < out.length) (b : Int) : rd_T39 (out.set j x) b = if b.toNat = j then x else rd_T39 out b := by
  unfold rd_T39
  by_cases h : b.toNat = j
  · rw [if_pos h, h]; simp [hj]
  · rw [if_neg h]
    simp only [List.getD_eq_getElem?_getD]
    rw [List.getElem?_set_ne (fun e => h e.symm)]
theorem acct_upd (wd : Int) (out : List S39) (i : Int) (h0 : 0 ≤ i) (h1 : i ≤ 3 * (out.length : Int)) (v a : Int) (ha : 0 ≤ a) : acctOf (updW wd i v) (updO out i v) a = if a = i then v else acctOf wd out a := by
  unfold acctOf updW updO
  by_cases hi : i = 0
  · subst hi
    rw [if_pos rfl, if_pos rfl]
    by_cases h : a = 0
    · rw [if_pos h, if_pos h]
    · rw [if_neg h, if_neg h, if_neg h]
  · rw [if_neg hi, if_neg hi]
    by_cases h : a = 0
    · rw [if_pos h, if_pos h, if_neg (by omega)]
    · rw [if_neg h, if_neg h]
      unfold setAcct
      rw [rd_set39 _ _ _ (by omega)]
      by_cases q : ((a - 1) / 3).toNat = ((i - 1) / 3).toNat
      · rw [if_pos q]
        have q2 : (a - 1) / 3 = (i - 1) / 3 := by omega
        rw [← q2]
        have hm : (i - 1) % 3 = 0 ∨ (i - 1) % 3 = 1 ∨ (i - 1) % 3 = 2 := by omega
        have hn : (a - 1) % 3 = 0 ∨ (a - 1) % 3 = 1 ∨ (a - 1) % 3 = 2 := by omega
        by_cases e : a = i
        · subst e
          rw [if_pos rfl]
          rcases hm with hm | hm | hm <;> rw [hm] <;> rfl
        · rw [if_neg e]
          rcases hm with hm | hm | hm <;> rcases hn with hn | hn | hn <;> first | (exfalso; omega) | (rw [hm, hn]; rfl)
      · rw [if_neg q]
        by_cases e : a = i
        · subst e; exact absurd rfl q
        · rw [if_neg e]
theorem oth_upd (out : List S39) (i : Int) (h0 : 0 ≤ i) (h1 : i ≤ 3 * (out.length : Int)) (v : Int) (b : Int) : (rd_T39 (updO out i v) b).f0 = (rd_T39 out b).f0 ∧ (rd_T39 (updO out i v) b).f1 = (rd_T39 out b).f1 ∧ (rd_T39 (updO out i v) b).f2 = (rd_T39 out b).f2 := by
  unfold updO
  by_cases hi : i = 0
  · rw [if_pos hi]; exact ⟨rfl, rfl, rfl⟩
  · rw [if_neg hi]
    unfold setAcct
    rw [rd_set39 _ _ _ (by omega)]
    by_cases q : b.toNat = ((i - 1) / 3).toNat
    · rw [if_pos q]
      have e : rd_T39 out b = rd_T39 out ((i - 1) / 3) := by unfold rd_T39; rw [q]
      rw [e]
      unfold withField
      split
      · exact ⟨rfl, rfl, rfl⟩
      · split <;> exact ⟨rfl, rfl, rfl⟩
    · rw [if_neg q]; exact ⟨rfl, rfl, rfl⟩
/-- What a posting that came through has done. -/
structure Done (l : List S37) (i : Int) (d : Nat) (wd : Int) (out : List S39) (wd' : Int) (out' : List S39) : Prop where
  len : out'.length = out.length
  low : ∀ a, 0 ≤ a → a < i → acctOf wd' out' a = acctOf wd out a
  nil : ∀ a, i ≤ a → a < i + (d : Int) → legsOf l a = [] → acctOf wd' out' a = acctOf wd out a
  sum : ∀ a, i ≤ a → a < i + (d : Int) → legsOf l a ≠ [] → addS 0 (acctOf wd out a :: legsOf l a) = (acctOf wd' out' a, 0)
  pos : ∀ a, i ≤ a → a < i + (d : Int) → legsOf l a ≠ [] → (0 < a → 0 ≤ acctOf wd' out' a) ∧ (a = 0 → acctOf wd' out' a ≤ 0)
  oth : ∀ b, (rd_T39 out' b).f0 = (rd_T39 out b).f0 ∧ (rd_T39 out' b).f1 = (rd_T39 out b).f1 ∧ (rd_T39 out' b).f2 = (rd_T39 out b).f2
theorem post_done (l : List S37) : ∀ (d : Nat) (i : Int) (wd : Int) (out : List S39) (wd' : Int) (out' : List S39), 0 ≤ i → i + (d : Int) = 1 + 3 * (out.length : Int) → postS l d i wd out = (wd', out', 0) → Done l i d wd out wd' out' := by
  intro d
  induction d with
  | zero =>
    intro i wd out wd' out' h0 h1 h
    simp only [postS] at h
    obtain ⟨rfl, rfl, _⟩ : wd = wd' ∧ out = out' ∧ True := by simpa using h
    exact ⟨rfl, fun _ _ _ => rfl, fun a h1 h2 => by omega, fun a h1 h2 => by omega, fun a h1 h2 => by omega, fun _ => ⟨rfl, rfl, rfl⟩⟩
  | succ d ih =>
    intro i wd out wd' out' h0 h1 h
    simp only [postS] at h
    by_cases c : legsOf l i = []
    · rw [if_pos c] at h
      have r := ih (i + 1) wd out wd' out' (by omega) (by omega) h
      refine ⟨r.len, fun a h2 h3 => r.low a h2 (by omega), fun a h2 h3 h4 => ?_, fun a h2 h3 h4 => ?_, fun a h2 h3 h4 => ?_, r.oth⟩
      · by_cases e : a = i
        · exact r.low a (by omega) (by omega)
        · exact r.nil a (by omega) (by omega) h4
      · by_cases e : a = i
        · subst e; exact absurd c h4
        · exact r.sum a (by omega) (by omega) h4
      · by_cases e : a = i
        · subst e; exact absurd c h4
        · exact r.pos a (by omega) (by omega) h4
    · rw [if_neg c] at h
      obtain ⟨p1, p2, hp⟩ : ∃ p1 p2, addS 0 (acctOf wd out i :: legsOf l i) = (p1, p2) := ⟨_, _, rfl⟩
      rw [hp] at h
      simp only at h
      by_cases c2 : p2 = 0
      · rw [if_pos c2] at h
        subst c2
        by_cases c3 : (0 < i ∧ p1 < 0) ∨ (i = 0 ∧ 0 < p1)
        · rw [if_pos c3] at h; simp at h
        · rw [if_neg c3] at h
          have r := ih (i + 1) _ _ wd' out' (by omega) (by rw [updO_len]; omega) h
          have ui := acct_upd wd out i h0 (by omega) p1
          have ei : acctOf wd' out' i = p1 := by rw [r.low i h0 (by omega), ui i h0, if_pos rfl]
          refine ⟨by rw [r.len, updO_len], fun a h2 h3 => ?_, fun a h2 h3 h4 => ?_, fun a h2 h3 h4 => ?_, fun a h2 h3 h4 => ?_, fun b => ?_⟩
          · rw [r.low a h2 (by omega), ui a h2, if_neg (by omega)]
          · by_cases e : a = i
            · subst e; exact absurd h4 c
            · rw [r.nil a (by omega) (by omega) h4, ui a (by omega), if_neg e]
          · by_cases e : a = i
            · subst e; rw [ei]; exact hp
            · have := r.sum a (by omega) (by omega) h4
              rw [ui a (by omega), if_neg e] at this
              exact this
          · by_cases e : a = i
            · subst e; rw [ei]; exact ⟨by omega, by omega⟩
            · exact r.pos a (by omega) (by omega) h4
          · have o := oth_upd out i h0 (by omega) p1 b
            have o2 := r.oth b
            exact ⟨o2.1.trans o.1, o2.2.1.trans o.2.1, o2.2.2.trans o.2.2⟩
      · rw [if_neg c2] at h
        simp at h; exact absurd h.2.2 c2
theorem post_fail (l : List S37) : ∀ (d : Nat) (i : Int) (wd : Int) (out : List S39), (postS l d i wd out).2.2 ≠ 0 → ∃ e, postS l d i wd out = (0, [], e) := by
  intro d
  induction d with
  | zero => intro i wd out h; exact absurd rfl h
  | succ d ih =>
    intro i wd out h
    simp only [postS] at h ⊢
    split
    · rename_i c; rw [if_pos c] at h; exact ih _ _ _ h
    · rename_i c
      rw [if_neg c] at h
      split
      · rename_i c2; rw [if_pos c2] at h
        split
        · exact ⟨7, rfl⟩
        · rename_i c3; rw [if_neg c3] at h; exact ih _ _ _ h
      · exact ⟨_, rfl⟩
theorem may_ok (n : Nat) (l : List S37) : ∀ (m : List S37), mayN n l m = 0 → (∀ x ∈ m, 0 ≤ x.f0 ∧ x.f0 ≤ 3 * (n : Int) ∧ x.f1 ≠ 0) ∧ ¬ (l.length = 0 ∨ 64 < l.length) ∧ addS 0 (l.map fun x => x.f1) = (0, 0) := by
  intro m
  induction m with
  | nil =>
    intro h
    simp only [mayN] at h
    by_cases c : l.length = 0 ∨ 64 < l.length
    · rw [if_pos c] at h; simp at h
    · rw [if_neg c] at h
      refine ⟨fun x hx => by simp at hx, c, ?_⟩
      obtain ⟨p1, p2, hp⟩ : ∃ p1 p2, addS 0 (l.map fun x => x.f1) = (p1, p2) := ⟨_, _, rfl⟩
      rw [hp] at h ⊢
      simp only at h
      by_cases c2 : p2 = 0 ∧ p1 ≠ 0
      · rw [if_pos c2] at h; simp at h
      · rw [if_neg c2] at h
        subst h
        have : p1 = 0 := by
          by_cases q : p1 = 0
          · exact q
          · exact absurd ⟨rfl, q⟩ c2
        rw [this]
  | cons x xs ih =>
    intro h
    simp only [mayN] at h
    by_cases c : 0 ≤ x.f0 ∧ x.f0 ≤ 3 * (n : Int)
    · rw [if_pos c] at h
      by_cases c2 : x.f1 = 0
      · rw [if_pos c2] at h; simp at h
      · rw [if_neg c2] at h
        obtain ⟨r1, r2, r3⟩ := ih h
        refine ⟨fun y hy => ?_, r2, r3⟩
        rcases List.mem_cons.1 hy with rfl | hy
        · exact ⟨c.1, c.2, c2⟩
        · exact r1 y hy
    · rw [if_neg c] at h; simp at h

theorem legsOf_cons (x : S37) (xs : List S37) (a : Int) : legsOf (x :: xs) a = if x.f0 = a then x.f1 :: legsOf xs a else legsOf xs a := by
  unfold legsOf
  by_cases h : x.f0 = a
  · rw [if_pos h]; simp [h]
  · rw [if_neg h]; simp [h]
/-- The legs' amounts of the first accounts. -/
def sumLegs (l : List S37) : Nat → Int
  | 0 => 0
  | n + 1 => sumLegs l n + (legsOf l (n : Int)).sum
theorem sumLegs_nil : ∀ n, sumLegs [] n = 0 := by
  intro n
  induction n with
  | zero => rfl
  | succ n ih => simp only [sumLegs, ih]; rfl
theorem sumLegs_cons (x : S37) (xs : List S37) : ∀ n : Nat, 0 ≤ x.f0 → sumLegs (x :: xs) n = sumLegs xs n + (if x.f0 < (n : Int) then x.f1 else 0) := by
  intro n h
  induction n with
  | zero => simp only [sumLegs]; rw [if_neg (by omega)]; omega
  | succ n ih =>
    simp only [sumLegs, ih, legsOf_cons]
    by_cases c : x.f0 = (n : Int)
    · rw [if_pos c, if_neg (by omega), if_pos (by omega), List.sum_cons]; omega
    · rw [if_neg c]
      by_cases c2 : x.f0 < (n : Int)
      · rw [if_pos c2, if_pos (by omega)]; omega
      · rw [if_neg c2, if_neg (by omega)]; omega
theorem sumLegs_all : ∀ (l : List S37) (n : Nat), (∀ x ∈ l, 0 ≤ x.f0 ∧ x.f0 < (n : Int)) → sumLegs l n = (l.map fun x => x.f1).sum := by
  intro l
  induction l with
  | nil => intro n _; rw [sumLegs_nil]; rfl
  | cons x xs ih =>
    intro n h
    have hx := h x (List.mem_cons_self ..)
    rw [sumLegs_cons x xs n hx.1, if_pos hx.2, ih n fun y hy => h y (List.mem_cons_of_mem _ hy), List.map_cons, List.sum_cons]; omega
theorem wrap_add (x y : Int) : wrap64 (wrap64 x + y) = wrap64 (x + y) := by unfold wrap64; omega
theorem legs_mem (l : List S37) (a : Int) : legsOf l a ≠ [] ↔ ∃ x ∈ l, x.f0 = a := by
  unfold legsOf
  constructor
  · intro h
    by_cases q : ∃ x ∈ l, x.f0 = a
    · exact q
    · exfalso; apply h
      rw [List.map_eq_nil_iff, List.filter_eq_nil_iff]
      intro x hx e
      exact q ⟨x, hx, by simpa using e⟩
  · rintro ⟨x, hx, e⟩ h
    rw [List.map_eq_nil_iff, List.filter_eq_nil_iff] at h
    exact h x hx (by simpa using e)
theorem same_l0 (a b : List S39) (hl : a.length = b.length) (hb : a.length < 9223372036854775807) (h : a = b) : ∀ (d k i : Nat), a.length - i = d → i ≤ a.length → d < k → prebendref09_Same.l0 k a b (i : Int) = some true := by
  subst h
  intro d
  induction d with
  | zero =>
    intro k i hd hi hk
    obtain ⟨k, rfl⟩ : ∃ m, k = m + 1 := ⟨k - 1, by omega⟩
    simp only [prebendref09_Same.l0]; rw [if_neg (by omega)]
  | succ d ih =>
    intro k i hd hi hk
    obtain ⟨k, rfl⟩ : ∃ m, k = m + 1 := ⟨k - 1, by omega⟩
    simp only [prebendref09_Same.l0]
    rw [if_pos (by omega), if_pos (by omega), if_pos (by omega), if_neg (by simp), wrap_id _ (by omega) (by omega), show ((i : Int) + 1) = ((i + 1 : Nat) : Int) by omega]
    exact ih k (i + 1) (by omega) (by omega) (by omega)
theorem same_eq (a : List S39) (hb : a.length < 9223372036854775807) (k : Nat) (hk : a.length < k) : prebendref09_Same.f k a a = some true := by
  unfold prebendref09_Same.f
  rw [if_pos rfl]
  have := same_l0 a a rfl hb rfl a.length k 0 (by omega) (by omega) hk
  simpa using this
theorem amount_eq (a0 : Int) (l : List S39) (hl : l.length ≤ 30) (a : Int) (h0 : 0 ≤ a) (h1 : a ≤ 3 * (l.length : Int)) : ledger_Amount.f a0 l a = some (acctOf a0 l a, 0) := by
  unfold ledger_Amount.f
  rw [if_pos (by omega), if_pos (by omega)]

theorem awake_up : ∀ j, prebendlaw09_awake.f (200 + j) = some true := by
  intro j
  induction j with
  | zero => decide +kernel
  | succ j ih => exact prebendlaw09_awake.mono (200 + j) _ ih
theorem awake_at (k : Nat) (h : 200 ≤ k) : prebendlaw09_awake.f k = some true := by
  obtain ⟨j, rfl⟩ : ∃ j, k = 200 + j := ⟨k - 200, by omega⟩
  exact awake_up j
theorem wf64 (x : Int) (h : (Lit.int .i64 x).wf = true) : x ≤ 9223372036854775807 := by
  simp only [Lit.wf, Bool.and_eq_true, decide_eq_true_eq] at h
  have e2 : IntKind.i64.max = 9223372036854775807 := by decide +kernel
  omega
theorem post_len (l : List S37) (d : Nat) (wd : Int) (out : List S39) (hd : (d : Int) = 1 + 3 * (out.length : Int)) : (postS l d 0 wd out).2.1.length ≤ out.length := by
  by_cases c2 : (postS l d 0 wd out).2.2 = 0
  · obtain ⟨wd', out', e'⟩ : ∃ wd' out', postS l d 0 wd out = (wd', out', 0) := ⟨_, _, Prod.ext rfl (Prod.ext rfl c2)⟩
    have D := post_done l d 0 wd out wd' out' (by omega) (by omega) e'
    rw [e']; exact Nat.le_of_eq D.len
  · obtain ⟨e, he⟩ := post_fail _ _ _ _ _ c2
    rw [he]; exact Nat.zero_le _
theorem own_at (K : Nat) (hK : 4000 ≤ K) (a0 : Int) (l1 : List S39) (l2 : List S37) (w2 : l2.length ≤ maxLen ∧ ∀ y ∈ l2, g37 y) : ∃ (r1 : Int) (r2 : List S39) (r3 : Int), ledger_Post.f K a0 (l1.take 20) (l2.take 70) = some (r1, r2, r3) ∧ r2.length ≤ 20 ∧ prebendref09_Same.f K (l1.take 20) (l1.take 20) = some true ∧ prebendlaw09_awake.f K = some true := by
  have hl : (l1.take 20).length ≤ 20 := by rw [List.length_take]; omega
  have hm : (l2.take 70).length ≤ 70 := by rw [List.length_take]; omega
  have hw : ∀ x ∈ l2.take 70, x.f0 ≤ 9223372036854775807 := fun x hx => wf64 _ (w2.2 x (List.mem_of_mem_take hx)).1
  generalize l1.take 20 = x at hl
  generalize l2.take 70 = l at hm hw
  have e := post_eq a0 x (by omega) l (by omega) hw K (by omega)
  have hlen : (if mayN x.length l l = 0 then postS l (1 + 3 * x.length) 0 a0 x else (0, [], mayN x.length l l)).2.1.length ≤ 20 := by
    split
    · exact Nat.le_trans (post_len l _ a0 x (by omega)) hl
    · exact Nat.zero_le _
  exact ⟨_, _, _, e, hlen, same_eq x (by omega) K (by omega), awake_at K (by omega)⟩
theorem LedgerOwn : prebendlaw09_LedgerOwn.Pure := fun a0 l1 l2 w2 => ⟨4000, own_at 4000 (Nat.le_refl _) a0 l1 l2 w2⟩

end Go.Proofs.Ytkjkonkgcepanaa.Pure
