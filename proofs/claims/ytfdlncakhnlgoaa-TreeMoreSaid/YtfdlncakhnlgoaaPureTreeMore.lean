/- A fund is used at least as much as any that lies below it, where no amount is below 0; more that is spent is more that is used, by each fund above: for all funds, allocations and numbers that a call may be handed; no conditions. -/
import Derived.Test.YtfdlncakhnlgoaaPAllx26
import Derived.Laws.BitsLemmas
set_option linter.unusedVariables false
set_option linter.unusedSimpArgs false
namespace Go.Proofs.Ytfdlncakhnlgoaa.Pure
open Go Go.RowKit Go.Proofs.Ytfdlncakhnlgoaa.PAll Go.Proofs.YtfdlncakhnlgoaaW.PrintWords Go.Proofs.YtfdlncakhnlgoaaW.PrintLast

def fitB (n : Int) : Bool := decide (-1152921504606846976 ≤ n) && decide (n ≤ 1152921504606846976)
theorem fitB_iff (n : Int) : fitB n = true ↔ -1152921504606846976 ≤ n ∧ n ≤ 1152921504606846976 := by simp [fitB]
theorem rd_drop (l : List Int) (i : Nat) (h : i < l.length) : l.drop i = rd l (i : Int) :: l.drop (i + 1) := by
  rw [List.drop_eq_getElem_cons h]; simp [rd, h]
theorem wrap_id (n : Int) (h : -9223372036854775808 ≤ n) (h2 : n < 9223372036854775808) : wrap64 n = n := by unfold wrap64; omega

theorem fits_eq (n : Int) : money_fits.f n = some (fitB n) := by
  unfold money_fits.f fitB
  by_cases h : n ≥ -1152921504606846976
  · rw [if_pos h]; simp [h]
  · rw [if_neg h]; simp [h]

def addS : Int → List Int → Int × Int
  | s, [] => (s, 0)
  | s, x :: xs => if fitB x && fitB (s + x) then addS (s + x) xs else (0, 2)

theorem add_l0 (l : List Int) (hl : l.length < 9223372036854775807) (d : Nat) : ∀ (k i : Nat) (s : Int), l.length - i = d → i ≤ l.length → d < k → fitB s = true →
    money_Add.l0 k s l (l.length : Int) (i : Int) = some (addS s (l.drop i)) := by
  induction d with
  | zero =>
    intro k i s hd hi hk hs
    obtain ⟨k, rfl⟩ : ∃ m, k = m + 1 := ⟨k - 1, by omega⟩
    have : i = l.length := by omega
    subst this
    simp only [money_Add.l0]
    rw [if_neg (by omega)]; simp [addS]
  | succ d ih =>
    intro k i s hd hi hk hs
    obtain ⟨k, rfl⟩ : ∃ m, k = m + 1 := ⟨k - 1, by omega⟩
    simp only [money_Add.l0]
    rw [if_pos (by omega), if_pos (by omega), if_pos (by omega), rd_drop l i (by omega), fits_eq]
    simp only [Option.bind_some, addS]
    have hs' := (fitB_iff s).1 hs
    by_cases h1 : fitB (rd l i) = true
    · rw [if_pos h1]
      have h1' := (fitB_iff _).1 h1
      rw [wrap_id (s + rd l i) (by omega) (by omega), fits_eq]
      simp only [Option.bind_some, h1, Bool.true_and]
      by_cases h2 : fitB (s + rd l i) = true
      · rw [if_pos h2, if_pos h2, wrap_id (↑i + 1) (by omega) (by omega)]
        exact ih k (i + 1) _ (by omega) (by omega) (by omega) h2
      · rw [if_neg h2, if_neg h2]
    · rw [if_neg h1]
      simp [h1]
theorem add_eq (l : List Int) (hl : l.length < 9223372036854775807) (k : Nat) (hk : l.length < k) : money_Add.f k l = some (addS 0 l) := by
  have := add_l0 l hl l.length k 0 0 (by omega) (by omega) hk (by decide)
  simpa [money_Add.f] using this

theorem name_empty (x : ByteArray) : (x.toList == []) = decide ((x.size : Int) < 1) := by
  rw [Go.ByteArray.toList_eq]
  have hlen : x.data.toList.length = x.size := by cases x; rfl
  by_cases h : x.data.toList = []
  · have : x.size = 0 := by rw [← hlen, h]; rfl
    simp [h, this]
  · have : x.size ≠ 0 := by rw [← hlen]; intro q; exact h (List.length_eq_zero_iff.mp q)
    rw [beq_eq_false_iff_ne.mpr h]
    symm; apply decide_eq_false; omega
theorem few_eq (l : List S40) (m : List S43) : prebendlaw08_few.f l m = some (l.take 20, m.take 20) := by
  unfold prebendlaw08_few.f
  by_cases h : (l.length : Int) > 20
  · by_cases h2 : (m.length : Int) > 20
    · rw [if_pos h, if_pos (by omega)]; simp only [Option.bind_some]; rw [if_pos h2, if_pos (by omega)]
    · rw [if_pos h, if_pos (by omega)]; simp only [Option.bind_some]; rw [if_neg h2, List.take_of_length_le (l := m) (by omega)]
  · by_cases h2 : (m.length : Int) > 20
    · rw [if_neg h, if_pos h2, if_pos (by omega), List.take_of_length_le (l := l) (by omega)]
    · rw [if_neg h, if_neg h2, List.take_of_length_le (l := m) (by omega), List.take_of_length_le (l := l) (by omega)]
/-- The way up of a fund. -/
def pathN (l : List S40) : Nat → Int → List Int
  | 0, _ => []
  | n + 1, f => if 0 ≤ f ∧ f < (l.length : Int) then f :: (if (rd_T40 l f).f1 ≥ f then [] else pathN l n (rd_T40 l f).f1) else []
theorem pathN_neg (l : List S40) (n : Nat) (f : Int) (h : f < 0) : pathN l n f = [] := by
  cases n with
  | zero => rfl
  | succ n => simp only [pathN]; rw [if_neg (by omega)]
theorem pathN_fuel (l : List S40) : ∀ (n m : Nat) (f : Int), f < n → f < m → pathN l n f = pathN l m f := by
  intro n
  induction n with
  | zero => intro m f h1 h2; rw [pathN_neg l m f (by omega)]; rfl
  | succ n ih =>
    intro m f h1 h2
    cases m with
    | zero => rw [pathN_neg l _ f (by omega)]; rfl
    | succ m =>
      simp only [pathN]
      by_cases h : 0 ≤ f ∧ f < (l.length : Int)
      · rw [if_pos h, if_pos h]
        by_cases g : (rd_T40 l f).f1 ≥ f
        · rw [if_pos g, if_pos g]
        · rw [if_neg g, if_neg g, ih m _ (by omega) (by omega)]
      · rw [if_neg h, if_neg h]
def path (l : List S40) (f : Int) : List Int := pathN l (l.length + 1) f
theorem path_out (l : List S40) (f : Int) (h : ¬ (0 ≤ f ∧ f < (l.length : Int))) : path l f = [] := by
  unfold path; simp only [pathN]; rw [if_neg h]
theorem path_in (l : List S40) (f : Int) (h : 0 ≤ f ∧ f < (l.length : Int)) : path l f = f :: (if (rd_T40 l f).f1 ≥ f then [] else path l (rd_T40 l f).f1) := by
  unfold path
  conv => lhs; simp only [pathN]
  rw [if_pos h]
  by_cases g : (rd_T40 l f).f1 ≥ f
  · rw [if_pos g, if_pos g]
  · rw [if_neg g, if_neg g, pathN_fuel l l.length (l.length + 1) _ (by omega) (by omega)]
theorem pathN_len (l : List S40) : ∀ (n : Nat) (f : Int), (pathN l n f).length ≤ n := by
  intro n
  induction n with
  | zero => intro f; simp [pathN]
  | succ n ih =>
    intro f
    simp only [pathN]
    split
    · split
      · simp
      · have := ih (rd_T40 l f).f1; simp; omega
    · simp
theorem path_len (l : List S40) (f : Int) : (path l f).length ≤ l.length + 1 := pathN_len l _ f
theorem tpath_l0 (l : List S40) : ∀ (n k : Nat) (f : Int) (acc : List Int), f < n → 2 * n + 2 ≤ k → acc.length + n < 17592186044416 → tree_Path.l0 k l f acc = some (acc ++ pathN l n f) := by
  intro n
  induction n with
  | zero =>
    intro k f acc h1 h2 h3
    obtain ⟨k, rfl⟩ : ∃ m, k = m + 2 := ⟨k - 2, by omega⟩
    simp only [tree_Path.l0]
    rw [if_neg (by omega)]
    simp [tree_Path.j1, slices_Clip_int.f, pathN]
  | succ n ih =>
    intro k f acc h1 h2 h3
    obtain ⟨k, rfl⟩ : ∃ m, k = m + 2 := ⟨k - 2, by omega⟩
    simp only [tree_Path.l0, pathN]
    by_cases h0 : f ≥ 0
    · rw [if_pos h0]
      simp only [tree_Path.j1]
      by_cases hl : f < (l.length : Int)
      · rw [if_pos (decide_eq_true hl), if_pos (by omega), if_pos ⟨h0, hl⟩]
        simp only [Option.bind_some]
        rw [if_pos h0, if_pos hl]
        by_cases g : (rd_T40 l f).f1 ≥ f
        · rw [if_pos g, if_pos g]; simp [slices_Clip_int.f]
        · rw [if_neg g, if_neg g, ih k _ _ (by omega) (by omega) (by simp; omega)]
          simp
      · rw [if_neg (by simpa using hl), if_neg (fun h => hl h.2)]
        simp [slices_Clip_int.f]
    · rw [if_neg h0, if_neg (fun h => h0 h.1)]
      simp [tree_Path.j1, slices_Clip_int.f]
theorem tpath_eq (l : List S40) (hl : l.length ≤ 20) (f : Int) (k : Nat) (hk : 50 ≤ k) : tree_Path.f k l f = some (path l f) := by
  unfold tree_Path.f
  by_cases h : f < (l.length : Int)
  · rw [tpath_l0 l (l.length + 1) k f [] (by omega) (by omega) (by simp; omega)]; simp [path]
  · obtain ⟨k, rfl⟩ : ∃ m, k = m + 2 := ⟨k - 2, by omega⟩
    rw [path_out l f (by omega)]
    simp only [tree_Path.l0]
    rw [if_pos (by omega)]
    simp only [tree_Path.j1]
    rw [if_neg (by simpa using h)]
    simp [slices_Clip_int.f]
theorem ints_l0 (a b : List Int) (hl : a.length = b.length) (hb : a.length < 9223372036854775807) : ∀ (d k i : Nat), a.length - i = d → i ≤ a.length → d < k → prebendref01_Ints.l0 k a b (i : Int) = some (decide (a.drop i = b.drop i)) := by
  intro d
  induction d with
  | zero =>
    intro k i hd hi hk
    obtain ⟨k, rfl⟩ : ∃ m, k = m + 1 := ⟨k - 1, by omega⟩
    simp only [prebendref01_Ints.l0]
    rw [if_neg (by omega), List.drop_of_length_le (by omega), List.drop_of_length_le (by omega)]; simp
  | succ d ih =>
    intro k i hd hi hk
    obtain ⟨k, rfl⟩ : ∃ m, k = m + 1 := ⟨k - 1, by omega⟩
    simp only [prebendref01_Ints.l0]
    rw [if_pos (by omega), if_pos (by omega), if_pos (by omega), rd_drop a i (by omega), rd_drop b i (by omega)]
    by_cases h : rd a i = rd b i
    · rw [if_pos h, wrap_id _ (by omega) (by omega)]
      have := ih k (i + 1) (by omega) (by omega) (by omega)
      rw [show ((i : Int) + 1) = ((i + 1 : Nat) : Int) by omega, this, h]
      simp
    · rw [if_neg h]; simp [h]
theorem ints_eq (a b : List Int) (k : Nat) (ha : a.length < 9223372036854775807) (hk : a.length < k) : prebendref01_Ints.f k a b = some (decide (a = b)) := by
  unfold prebendref01_Ints.f
  by_cases h : (a.length : Int) = (b.length : Int)
  · rw [if_pos h]
    have := ints_l0 a b (by omega) ha a.length k 0 (by omega) (by omega) hk
    simpa using this
  · rw [if_neg h]; congr 1; symm; apply decide_eq_false; intro e; exact h (by rw [e])

/-- Whether a fund's name is had by one ahead of it. -/
def dup (l : List S40) (i : Nat) : Bool := (l.take i).any fun z => z.f0.toList == (rd_T40 l (i : Int)).f0.toList
def row (l : List S40) (i : Nat) : Bool := tree_Good.bad (i : Int) (dup l i) (rd_T40 l (i : Int))
def goodN (l : List S40) : Nat → Nat → Bool
  | 0, _ => true
  | d + 1, i => !(row l i) && goodN l d (i + 1)
theorem rd40_drop (l : List S40) (i : Nat) (h : i < l.length) : l.drop i = rd_T40 l (i : Int) :: l.drop (i + 1) := by
  rw [List.drop_eq_getElem_cons h]; simp [rd_T40, h]
theorem idx_l0 (l : List S40) (hl : l.length < 9223372036854775807) (y : ByteArray) : ∀ (d k i : Nat), l.length - i = d → i ≤ l.length → d < k → ∃ r, slices_IndexFunc.l0 k l y (i : Int) = some r ∧ decide (r ≥ 0) = (l.drop i).any fun z => z.f0.toList == y.toList := by
  intro d
  induction d with
  | zero =>
    intro k i hd hi hk
    obtain ⟨k, rfl⟩ : ∃ m, k = m + 1 := ⟨k - 1, by omega⟩
    refine ⟨-1, ?_, ?_⟩
    · simp only [slices_IndexFunc.l0]; rw [if_neg (by omega)]
    · rw [List.drop_of_length_le (by omega)]; rfl
  | succ d ih =>
    intro k i hd hi hk
    obtain ⟨k, rfl⟩ : ∃ m, k = m + 1 := ⟨k - 1, by omega⟩
    simp only [slices_IndexFunc.l0]
    rw [if_pos (by omega), if_pos (by omega), rd40_drop l i (by omega)]
    by_cases h : (rd_T40 l (i : Int)).f0.toList = y.toList
    · rw [if_pos h]; exact ⟨i, rfl, by simp [h]⟩
    · rw [if_neg h, wrap_id _ (by omega) (by omega)]
      obtain ⟨r, h1, h2⟩ := ih k (i + 1) (by omega) (by omega) (by omega)
      refine ⟨r, ?_, ?_⟩
      · rw [show ((i : Int) + 1) = ((i + 1 : Nat) : Int) by omega]; exact h1
      · rw [h2, List.any_cons, beq_eq_false_iff_ne.mpr h]; rfl
theorem contains_eq (l : List S40) (hl : l.length < 9223372036854775807) (y : ByteArray) (k : Nat) (hk : l.length < k) : slices_ContainsFunc.f k l y = some (l.any fun z => z.f0.toList == y.toList) := by
  obtain ⟨r, h1, h2⟩ := idx_l0 l hl y l.length k 0 (by omega) (by omega) hk
  unfold slices_ContainsFunc.f
  rw [show (0 : Int) = ((0 : Nat) : Int) by rfl, h1]
  simp only [Option.bind_some]
  rw [show (((0 : Nat) : Int)) = (0 : Int) by rfl, h2]; simp
theorem tgood_l0 (l : List S40) (hl : l.length ≤ 100) : ∀ (d k i : Nat), l.length - i = d → i ≤ l.length → l.length + d < k → tree_Good.l0 k l (i : Int) = some (goodN l d i) := by
  intro d
  induction d with
  | zero =>
    intro k i hd hi hk
    obtain ⟨k, rfl⟩ : ∃ m, k = m + 1 := ⟨k - 1, by omega⟩
    simp only [tree_Good.l0, goodN]; rw [if_neg (by omega)]
  | succ d ih =>
    intro k i hd hi hk
    obtain ⟨k, rfl⟩ : ∃ m, k = m + 1 := ⟨k - 1, by omega⟩
    simp only [tree_Good.l0, goodN]
    rw [if_pos (by omega), if_pos (by omega), contains_eq _ (by rw [List.length_take]; omega) _ k (by rw [List.length_take]; omega)]
    simp only [Option.bind_some]
    rw [show (i : Int).toNat = i by omega, wrap_id _ (by omega) (by omega)]
    have e := ih k (i + 1) (by omega) (by omega) (by omega)
    rw [show ((i : Int) + 1) = ((i + 1 : Nat) : Int) by omega, e]
    show (if row l i = true then _ else _) = _
    cases row l i <;> rfl
theorem tgood_eq (l : List S40) (hl : l.length ≤ 20) (k : Nat) (hk : 50 ≤ k) : tree_Good.f k l = some (decide (l.length ≤ 8) && goodN l l.length 0) := by
  unfold tree_Good.f
  by_cases h : (l.length : Int) > 8
  · rw [if_pos h, decide_eq_false (by omega)]; rfl
  · have := tgood_l0 l (by omega) l.length k 0 (by omega) (by omega) (by omega)
    rw [if_neg h, decide_eq_true (by omega)]
    simpa using this

theorem goodN_all (l : List S40) : ∀ (d i : Nat), goodN l d i = true → ∀ j, i ≤ j → j < i + d → row l j = false := by
  intro d
  induction d with
  | zero => intro i _ j h1 h2; omega
  | succ d ih =>
    intro i h j h1 h2
    simp only [goodN, Bool.and_eq_true, Bool.not_eq_true'] at h
    by_cases e : j = i
    · subst e; exact h.1
    · exact ih (i + 1) h.2 j (by omega) (by omega)
theorem good_row (l : List S40) (h : goodN l l.length 0 = true) (q : Int) (h0 : 0 ≤ q) (h1 : q < (l.length : Int)) : -1 ≤ (rd_T40 l q).f1 ∧ (rd_T40 l q).f1 < q := by
  have := goodN_all l l.length 0 h q.toNat (by omega) (by omega)
  unfold row tree_Good.bad at this
  rw [show ((q.toNat : Nat) : Int) = q by omega] at this
  simp only [Bool.or_eq_false_iff, decide_eq_false_iff_not] at this
  omega
theorem rd_cons (a : Int) (l : List Int) (i : Nat) : rd (a :: l) ((i + 1 : Nat) : Int) = rd l (i : Int) := by simp [rd]
theorem path_drop (l : List S40) : ∀ (i : Nat) (f : Int), i < (path l f).length → path l (rd (path l f) (i : Int)) = (path l f).drop i := by
  intro i
  induction i with
  | zero =>
    intro f h
    by_cases c : 0 ≤ f ∧ f < (l.length : Int)
    · have e := path_in l f c
      have : rd (path l f) ((0 : Nat) : Int) = f := by rw [e]; rfl
      rw [this, List.drop_zero]
    · rw [path_out l f c] at h; simp at h
  | succ i ih =>
    intro f h
    by_cases c : 0 ≤ f ∧ f < (l.length : Int)
    · have e := path_in l f c
      by_cases g : (rd_T40 l f).f1 ≥ f
      · rw [if_pos g] at e; rw [e] at h; simp at h
      · rw [if_neg g] at e
        rw [e] at h ⊢
        rw [rd_cons, List.drop_succ_cons]
        exact ih _ (by simpa using h)
    · rw [path_out l f c] at h; simp at h
theorem path_rng (l : List S40) (f : Int) (i : Nat) (h : i < (path l f).length) : 0 ≤ rd (path l f) (i : Int) ∧ rd (path l f) (i : Int) < (l.length : Int) := by
  have e := path_drop l i f h
  by_cases c : 0 ≤ rd (path l f) (i : Int) ∧ rd (path l f) (i : Int) < (l.length : Int)
  · exact c
  · rw [path_out l _ c] at e
    have : ((path l f).drop i).length = 0 := by rw [← e]; rfl
    rw [List.length_drop] at this; omega
theorem path_next (l : List S40) (f : Int) (i : Nat) (h : i + 1 < (path l f).length) : (rd_T40 l (rd (path l f) (i : Int))).f1 = rd (path l f) ((i + 1 : Nat) : Int) ∧ rd (path l f) ((i + 1 : Nat) : Int) < rd (path l f) (i : Int) := by
  have e := path_drop l i f (by omega)
  rw [path_in l _ (path_rng l f i (by omega)), rd_drop (path l f) i (by omega)] at e
  have e2 := (List.cons.inj e).2
  have r1 := rd_drop (path l f) (i + 1) h
  by_cases g : (rd_T40 l (rd (path l f) (i : Int))).f1 ≥ rd (path l f) (i : Int)
  · rw [if_pos g, r1] at e2; simp at e2
  · rw [if_neg g, r1] at e2
    by_cases c : 0 ≤ (rd_T40 l (rd (path l f) (i : Int))).f1 ∧ (rd_T40 l (rd (path l f) (i : Int))).f1 < (l.length : Int)
    · rw [path_in l _ c] at e2
      have e3 := (List.cons.inj e2).1
      exact ⟨e3, by omega⟩
    · rw [path_out l _ c] at e2; simp at e2
theorem path_last (l : List S40) (f : Int) (i : Nat) (h : i + 1 = (path l f).length) : (rd_T40 l (rd (path l f) (i : Int))).f1 ≥ rd (path l f) (i : Int) ∨ (rd_T40 l (rd (path l f) (i : Int))).f1 < 0 := by
  have e := path_drop l i f (by omega)
  have hr := path_rng l f i (by omega)
  rw [path_in l _ hr, rd_drop (path l f) i (by omega), List.drop_of_length_le (by omega)] at e
  have e2 := (List.cons.inj e).2
  by_cases g : (rd_T40 l (rd (path l f) (i : Int))).f1 ≥ rd (path l f) (i : Int)
  · exact Or.inl g
  · rw [if_neg g] at e2
    right
    by_cases c : 0 ≤ (rd_T40 l (rd (path l f) (i : Int))).f1
    · rw [path_in l _ ⟨c, by omega⟩] at e2; simp at e2
    · omega

theorem rd43_drop (l : List S43) (i : Nat) (h : i < l.length) : l.drop i = rd_T43 l (i : Int) :: l.drop (i + 1) := by
  rw [List.drop_eq_getElem_cons h]; simp [rd_T43, h]
/-- What is liened and spent of a fund, and below it. -/
def useL (l : List S40) (f : Int) : List S43 → List Int
  | [] => []
  | a :: rs => (if f ∈ path l a.f0 then [a.f4, a.f5] else []) ++ useL l f rs
theorem useL_len (l : List S40) (f : Int) (m : List S43) : (useL l f m).length ≤ 2 * m.length := by
  induction m with
  | nil => simp [useL]
  | cons a rs ih => simp only [useL]; split <;> simp <;> omega
theorem index_l0 (l : List Int) (hl : l.length < 9223372036854775807) (y : Int) : ∀ (d k i : Nat), l.length - i = d → i ≤ l.length → d < k → ∃ r, slices_Index_int.l0 k l y (l.length : Int) (i : Int) = some r ∧ decide (r ≥ 0) = decide (y ∈ l.drop i) := by
  intro d
  induction d with
  | zero =>
    intro k i hd hi hk
    obtain ⟨k, rfl⟩ : ∃ m, k = m + 1 := ⟨k - 1, by omega⟩
    refine ⟨-1, ?_, ?_⟩
    · simp only [slices_Index_int.l0]; rw [if_neg (by omega)]
    · rw [List.drop_of_length_le (by omega)]; simp
  | succ d ih =>
    intro k i hd hi hk
    obtain ⟨k, rfl⟩ : ∃ m, k = m + 1 := ⟨k - 1, by omega⟩
    simp only [slices_Index_int.l0]
    rw [if_pos (by omega), if_pos (by omega), if_pos (by omega), rd_drop l i (by omega)]
    by_cases h : y = rd l i
    · rw [if_pos h]; exact ⟨i, rfl, by simp [h]⟩
    · rw [if_neg h, wrap_id _ (by omega) (by omega)]
      obtain ⟨r, h1, h2⟩ := ih k (i + 1) (by omega) (by omega) (by omega)
      refine ⟨r, ?_, ?_⟩
      · rw [show ((i : Int) + 1) = ((i + 1 : Nat) : Int) by omega]; exact h1
      · rw [h2]; simp [h]
theorem has_eq (l : List Int) (hl : l.length < 9223372036854775807) (y : Int) (k : Nat) (hk : l.length < k) : slices_Contains_int.f k l y = some (decide (y ∈ l)) := by
  obtain ⟨r, h1, h2⟩ := index_l0 l hl y l.length k 0 (by omega) (by omega) hk
  unfold slices_Contains_int.f slices_Index_int.f
  rw [show (0 : Int) = ((0 : Nat) : Int) by rfl, h1]
  simp only [Option.bind_some]
  rw [show (((0 : Nat) : Int)) = (0 : Int) by rfl, h2]; simp
theorem tuse_l0 (l : List S40) (hl : l.length ≤ 20) (f : Int) (m : List S43) (hm : m.length ≤ 20) : ∀ (d k i : Nat) (acc : List Int), m.length - i = d → i ≤ m.length → acc.length ≤ 2 * i → 100 + d ≤ k →
    tree_Use.l0 k l f acc m (m.length : Int) (i : Int) = some (addS 0 (acc ++ useL l f (m.drop i))) := by
  intro d
  induction d with
  | zero =>
    intro k i acc hd hi ha hk
    obtain ⟨k, rfl⟩ : ∃ m, k = m + 1 := ⟨k - 1, by omega⟩
    simp only [tree_Use.l0]
    rw [if_neg (by omega), List.drop_of_length_le (by omega), add_eq _ (by omega) _ (by omega)]
    simp [useL]
  | succ d ih =>
    intro k i acc hd hi ha hk
    obtain ⟨k, rfl⟩ : ∃ m, k = m + 1 := ⟨k - 1, by omega⟩
    have hp := path_len l (rd_T43 m i).f0
    simp only [tree_Use.l0]
    rw [if_pos (by omega), if_pos (by omega), if_pos (by omega), tpath_eq l hl _ k (by omega)]
    simp only [Option.bind_some]
    rw [has_eq _ (by omega) _ k (by omega), rd43_drop m i (by omega)]
    simp only [Option.bind_some, useL]
    rw [wrap_id _ (by omega) (by omega), show ((i : Int) + 1) = ((i + 1 : Nat) : Int) by omega]
    by_cases h : f ∈ path l (rd_T43 m i).f0
    · rw [if_pos (decide_eq_true h), if_pos (by simp; omega), if_pos h, ih k (i + 1) _ (by omega) (by omega) (by simp; omega) (by omega)]
      simp
    · rw [if_neg (by simpa using h), if_neg h, ih k (i + 1) _ (by omega) (by omega) (by omega) (by omega)]
      simp
/-- What is used of a fund, and whether it fits. -/
def useS (l : List S40) (m : List S43) (f : Int) : Int × Int := if 0 ≤ f ∧ f < (l.length : Int) then addS 0 (useL l f m) else (0, 4)
theorem tuse_eq (l : List S40) (hl : l.length ≤ 20) (m : List S43) (hm : m.length ≤ 20) (f : Int) (k : Nat) (hk : 150 ≤ k) : tree_Use.f k l m f = some (useS l m f) := by
  obtain ⟨k, rfl⟩ : ∃ m, k = m + 1 := ⟨k - 1, by omega⟩
  unfold tree_Use.f useS
  simp only [tree_Use.j0]
  by_cases h1 : f < 0
  · rw [if_pos h1, if_neg (show ¬ (0 ≤ f ∧ f < (l.length : Int)) by omega)]; simp
  · rw [if_neg h1]
    by_cases h2 : f < (l.length : Int)
    · rw [if_neg (by simpa using h2), if_pos ⟨by omega, h2⟩]
      have := tuse_l0 l hl f m hm m.length k 0 [] (by omega) (by omega) (by simp) (by omega)
      simpa using this
    · rw [if_pos (by simpa using h2), if_neg (by omega)]

theorem awake_up : ∀ j, prebendlaw08_awake.f (200 + j) = some true := by
  intro j
  induction j with
  | zero => decide +kernel
  | succ j ih => exact prebendlaw08_awake.mono (200 + j) _ ih
theorem awake_at (k : Nat) (h : 200 ≤ k) : prebendlaw08_awake.f k = some true := by
  obtain ⟨j, rfl⟩ : ∃ j, k = 200 + j := ⟨k - 200, by omega⟩
  exact awake_up j
theorem addS_sum : ∀ (xs : List Int) (s : Int), (∀ x ∈ xs, 0 ≤ x ∧ x ≤ 2199023255552) → 0 ≤ s → s + 2199023255552 * (xs.length : Int) ≤ 1152921504606846976 → addS s xs = (s + xs.sum, 0) := by
  intro xs
  induction xs with
  | nil => intro s _ _ _; simp [addS]
  | cons x xs ih =>
    intro s h h0 h1
    have hx := h x (List.mem_cons_self ..)
    simp only [List.length_cons] at h1
    have f1 : fitB x = true := (fitB_iff x).2 ⟨by omega, by omega⟩
    have f2 : fitB (s + x) = true := (fitB_iff _).2 ⟨by omega, by omega⟩
    simp only [addS, f1, f2, Bool.and_self, if_true]
    rw [ih (s + x) (fun q hq => h q (List.mem_cons_of_mem _ hq)) (by omega) (by omega), List.sum_cons, Int.add_assoc]
def okA (a : S43) : Prop := 0 ≤ a.f4 ∧ a.f4 ≤ 2199023255552 ∧ 0 ≤ a.f5 ∧ a.f5 ≤ 2199023255552
theorem useL_ok (l : List S40) (f : Int) : ∀ (m : List S43), (∀ a ∈ m, okA a) → ∀ x ∈ useL l f m, 0 ≤ x ∧ x ≤ 2199023255552 := by
  intro m
  induction m with
  | nil => intro _ x hx; simp [useL] at hx
  | cons a rs ih =>
    intro h x hx
    have ha := h a (List.mem_cons_self ..)
    unfold okA at ha
    simp only [useL, List.mem_append] at hx
    rcases hx with hx | hx
    · split at hx
      · simp at hx; rcases hx with rfl | rfl <;> omega
      · simp at hx
    · exact ih (fun q hq => h q (List.mem_cons_of_mem _ hq)) x hx
theorem useS_sum (l : List S40) (m : List S43) (hm : m.length ≤ 20) (h : ∀ a ∈ m, okA a) (f : Int) (h0 : 0 ≤ f) (h1 : f < (l.length : Int)) : useS l m f = ((useL l f m).sum, 0) := by
  unfold useS
  have hl := useL_len l f m
  rw [if_pos ⟨h0, h1⟩, addS_sum _ 0 (useL_ok l f m h) (by omega) (by omega), Int.zero_add]
theorem sum_set (l : List S40) (f : Int) (more : Int) (b : S43) : ∀ (m : List S43) (j : Nat) (a : S43), m[j]? = some a → b.f0 = a.f0 → b.f4 = a.f4 → b.f5 = a.f5 + more →
    (useL l f (m.set j b)).sum = (useL l f m).sum + (if f ∈ path l a.f0 then more else 0) := by
  intro m
  induction m with
  | nil => intro j a h; simp at h
  | cons c rs ih =>
    intro j a h e0 e4 e5
    cases j with
    | zero =>
      have hc : c = a := by simpa using h
      subst hc
      simp only [List.set_cons_zero, useL, e0]
      by_cases hp : f ∈ path l c.f0
      · simp only [if_pos hp, List.sum_append, List.sum_cons, List.sum_nil, e4, e5]; omega
      · simp only [if_neg hp]; simp
    | succ j =>
      have := ih j a (by simpa using h) e0 e4 e5
      simp only [List.set_cons_succ, useL, List.sum_append, this]; omega
theorem mem_up (l : List S40) (hg : goodN l l.length 0 = true) (a f : Int) (h : f ∈ path l a) (hp : 0 ≤ (rd_T40 l f).f1) : (rd_T40 l f).f1 ∈ path l a := by
  obtain ⟨i, hi, e⟩ := List.mem_iff_getElem.1 h
  have er : rd (path l a) (i : Int) = f := by simp [rd, hi, e]
  have r := path_rng l a i hi
  have d := path_drop l i a hi
  rw [er] at r d
  have g := good_row l hg f r.1 r.2
  rw [path_in l f r, if_neg (by omega), path_in l (rd_T40 l f).f1 ⟨hp, by omega⟩] at d
  have hm : (rd_T40 l f).f1 ∈ (path l a).drop i := by rw [← d]; simp
  exact List.mem_of_mem_drop hm
theorem sum_le (l : List S40) (hg : goodN l l.length 0 = true) (f : Int) (hp : 0 ≤ (rd_T40 l f).f1) : ∀ (m : List S43), (∀ a ∈ m, okA a) → (useL l f m).sum ≤ (useL l (rd_T40 l f).f1 m).sum := by
  intro m
  induction m with
  | nil => intro _; simp [useL]
  | cons a rs ih =>
    intro h
    have ha := h a (List.mem_cons_self ..)
    unfold okA at ha
    have i1 := ih fun q hq => h q (List.mem_cons_of_mem _ hq)
    simp only [useL, List.sum_append]
    by_cases c : f ∈ path l a.f0
    · have c2 := mem_up l hg a.f0 f c hp
      rw [if_pos c, if_pos c2]; omega
    · rw [if_neg c]
      split
      · simp only [List.sum_cons, List.sum_nil]; omega
      · omega
theorem more_l2 (x3 : Int) (x9 : List S40) (x10 x11 : List S43) (x13 x14 A B : Int) (t : List Int) (ht : t.length < 9223372036854775807) (above : Bool) (hB : B = if above = true then wrap64 (A + wrap64 x3) else A) (m : Nat) : ∀ (d i : Nat) (fl : Bool), t.length - i = d → i ≤ t.length → (fl || decide (x14 ∈ t.drop i)) = above →
    prebendlaw08_TreeMore.l2 (m + d + 1) x3 x9 x10 x11 x13 x14 A 0 B 0 fl t (i : Int) = prebendlaw08_TreeMore.j4 m x3 x9 x10 x11 x13 x14 A false := by
  intro d
  induction d with
  | zero =>
    intro i fl hd hi ha
    rw [List.drop_of_length_le (by omega)] at ha
    have ha' : fl = above := by simpa using ha
    subst ha'
    simp only [prebendlaw08_TreeMore.l2]
    rw [if_neg (by omega)]
    simp only [if_true]
    cases fl with
    | true => rw [if_pos rfl] at hB; rw [if_pos rfl, if_pos hB]
    | false => rw [if_neg (by simp)] at hB; subst hB; simp
  | succ d ih =>
    intro i fl hd hi ha
    have e := ih (i + 1)
    rw [show m + (d + 1) + 1 = (m + d + 1) + 1 by omega]
    generalize m + d + 1 = K at e
    rw [rd_drop t i (by omega)] at ha
    simp only [prebendlaw08_TreeMore.l2]
    rw [if_pos (by omega), wrap_id _ (by omega) (by omega), show ((i : Int) + 1) = ((i + 1 : Nat) : Int) by omega]
    cases fl with
    | true => rw [if_pos rfl]; exact e true (by omega) (by omega) (by simpa using ha)
    | false =>
      rw [if_neg (by simp), if_pos (by omega)]
      refine e _ (by omega) (by omega) ?_
      rw [← ha]
      by_cases h : rd t (i : Int) = x14
      · simp [h]
      · have h' : ¬ x14 = rd t (i : Int) := fun q => h q.symm
        simp [h, h']
theorem more_l1 (l : List S40) (hl : l.length ≤ 20) (hg : goodN l l.length 0 = true) (m z : List S43) (hm : m.length ≤ 20) (hz : z.length ≤ 20) (om : ∀ a ∈ m, okA a) (oz : ∀ a ∈ z, okA a) (x3 more : Int) (hw : wrap64 x3 = more) (hmore : 0 ≤ more ∧ more ≤ 4294967296) (j : Nat) (hj : j < z.length)
    (hs : ∀ f, (useL l f z).sum = (useL l f m).sum + (if f ∈ path l (rd_T43 z (j : Int)).f0 then more else 0)) : ∀ (d k i : Nat), l.length - i = d → i ≤ l.length → 24 * d + 260 ≤ k →
    prebendlaw08_TreeMore.l1 k x3 l m z (j : Int) (i : Int) = some true := by
  intro d
  induction d with
  | zero =>
    intro k i hd hi hk
    obtain ⟨k, rfl⟩ : ∃ m, k = m + 1 := ⟨k - 1, by omega⟩
    simp only [prebendlaw08_TreeMore.l1]
    rw [if_neg (by omega), awake_at k (by omega)]; rfl
  | succ d ih =>
    intro k i hd hi hk
    have hp := path_len l (rd_T43 z (j : Int)).f0
    obtain ⟨n, rfl⟩ : ∃ n, k = ((n + 1) + (path l (rd_T43 z (j : Int)).f0).length + 1) + 1 := ⟨k - (path l (rd_T43 z (j : Int)).f0).length - 3, by omega⟩
    have e := ih n (i + 1) (by omega) (by omega) (by omega)
    have hA := useL_ok l (i : Int) m om
    have hlen := useL_len l (i : Int) m
    have e2 := more_l2 x3 l m z (j : Int) (i : Int) (useL l (i : Int) m).sum (useL l (i : Int) z).sum (path l (rd_T43 z (j : Int)).f0) (by omega) (decide ((i : Int) ∈ path l (rd_T43 z (j : Int)).f0)) (by
      rw [hs (i : Int), hw]
      have b := addS_sum (useL l (i : Int) m) 0 hA (by omega) (by omega)
      have bb : 0 ≤ (useL l (i : Int) m).sum ∧ (useL l (i : Int) m).sum ≤ 2199023255552 * 40 := by
        have q : ∀ xs : List Int, (∀ x ∈ xs, 0 ≤ x ∧ x ≤ 2199023255552) → 0 ≤ xs.sum ∧ xs.sum ≤ 2199023255552 * (xs.length : Int) := by
          intro xs
          induction xs with
          | nil => intro _; simp
          | cons x xs ih2 =>
            intro h
            have h1 := h x (List.mem_cons_self ..)
            have h2 := ih2 fun q hq => h q (List.mem_cons_of_mem _ hq)
            simp only [List.sum_cons, List.length_cons]; omega
        have := q _ hA
        omega
      by_cases c : (i : Int) ∈ path l (rd_T43 z (j : Int)).f0
      · rw [if_pos c, decide_eq_true c, if_pos rfl, wrap_id _ (by omega) (by omega)]
      · rw [if_neg c, decide_eq_false c, if_neg (by simp)]; omega) (n + 1) (path l (rd_T43 z (j : Int)).f0).length 0 false (by omega) (by omega) (by simp)
    generalize hK : (n + 1) + (path l (rd_T43 z (j : Int)).f0).length + 1 = K at e2
    have hK2 : 200 ≤ K := by omega
    simp only [prebendlaw08_TreeMore.l1]
    rw [if_pos (by omega), tuse_eq l hl m hm _ K (by omega), tuse_eq l hl z hz _ K (by omega), useS_sum l m hm om _ (by omega) (by omega), useS_sum l z hz oz _ (by omega) (by omega)]
    simp only [Option.bind_some]
    rw [if_pos (by omega), if_pos (by omega), tpath_eq l hl _ K (by omega)]
    simp only [Option.bind_some]
    rw [show (((0 : Nat) : Int)) = (0 : Int) by rfl] at e2
    rw [e2]
    simp only [prebendlaw08_TreeMore.j4]
    have g := good_row l hg (i : Int) (by omega) (by omega)
    rw [if_neg (by simp), if_pos (by omega), if_pos (by omega), wrap_id _ (by omega) (by omega), show ((i : Int) + 1) = ((i + 1 : Nat) : Int) by omega, e]
    by_cases c : (rd_T40 l (i : Int)).f1 ≥ 0
    · have le := sum_le l hg (i : Int) c m om
      rw [if_pos c, tuse_eq l hl m hm _ n (by omega), useS_sum l m hm om _ (by omega) (by omega)]
      simp only [Option.bind_some]
      rw [if_pos trivial, if_neg (by omega)]
    · rw [if_neg c]
def okB (a : S43) : Prop := 0 ≤ a.f4 ∧ 0 ≤ a.f5 ∧ a.f4 ≤ 1099511627776 ∧ a.f5 ≤ 1099511627776
theorem more_l0 (l : List S40) (m z : List S43) (hm : z.length ≤ 20) (hne : z.length ≠ 0) (x2 x3 : Int) (hx : 0 ≤ wrap64 x2)
    (H : (∀ a ∈ z, okB a) → ∀ k, 800 ≤ k → prebendlaw08_TreeMore.l1 k x3 l m (z.set (Int.tmod (wrap64 x2) (z.length : Int)).toNat (⟨(rd_T43 z (Int.tmod (wrap64 x2) (z.length : Int))).f0, (rd_T43 z (Int.tmod (wrap64 x2) (z.length : Int))).f1, (rd_T43 z (Int.tmod (wrap64 x2) (z.length : Int))).f2, (rd_T43 z (Int.tmod (wrap64 x2) (z.length : Int))).f3, (rd_T43 z (Int.tmod (wrap64 x2) (z.length : Int))).f4, wrap64 (((rd_T43 z (Int.tmod (wrap64 x2) (z.length : Int))).f5) + (wrap64 x3))⟩ : S43)) (Int.tmod (wrap64 x2) (z.length : Int)) 0 = some true) :
    ∀ (d k i : Nat), z.length - i = d → i ≤ z.length → 900 + d ≤ k → (∀ a ∈ z.take i, okB a) → prebendlaw08_TreeMore.l0 k x2 x3 l m z (i : Int) = some true := by
  intro d
  induction d with
  | zero =>
    intro k i hd hi hk ho
    obtain ⟨k, rfl⟩ : ∃ m, k = m + 1 := ⟨k - 1, by omega⟩
    rw [List.take_of_length_le (by omega)] at ho
    have t0 := Int.tmod_nonneg (z.length : Int) hx
    have t1 := Int.tmod_lt_of_pos (wrap64 x2) (show (0 : Int) < (z.length : Int) by omega)
    simp only [prebendlaw08_TreeMore.l0]
    rw [if_neg (by omega), if_neg (by omega), if_pos t0, if_pos t1]
    exact H ho k (by omega)
  | succ d ih =>
    intro k i hd hi hk ho
    obtain ⟨k, rfl⟩ : ∃ m, k = m + 1 := ⟨k - 1, by omega⟩
    simp only [prebendlaw08_TreeMore.l0]
    rw [if_pos (by omega), if_pos (by omega), awake_at k (by omega)]
    have i1 := ih k (i + 1) (by omega) (by omega) (by omega)
    rw [wrap_id ((i : Int) + 1) (by omega) (by omega), show ((i : Int) + 1) = ((i + 1 : Nat) : Int) by omega]
    have hd2 : z.take (i + 1) = z.take i ++ [rd_T43 z (i : Int)] := by
      have hi2 : i < z.length := by omega
      rw [List.take_add_one]; simp [rd_T43, hi2]
    by_cases c1 : (rd_T43 z (i : Int)).f4 < 0
    · rw [if_pos c1]; rfl
    · by_cases c2 : (rd_T43 z (i : Int)).f5 < 0
      · rw [if_neg c1, if_pos c2]; rfl
      · by_cases c3 : (rd_T43 z (i : Int)).f4 > 1099511627776
        · rw [if_neg c1, if_neg c2, if_pos c3]; rfl
        · by_cases c4 : (rd_T43 z (i : Int)).f5 > 1099511627776
          · rw [if_neg c1, if_neg c2, if_neg c3, if_pos c4]; rfl
          · rw [if_neg c1, if_neg c2, if_neg c3, if_neg c4]
            refine i1 ?_
            intro a ha
            rw [hd2, List.mem_append] at ha
            rcases ha with ha | ha
            · exact ho a ha
            · have : a = rd_T43 z (i : Int) := by simpa using ha
              subst this
              exact ⟨by omega, by omega, by omega, by omega⟩
theorem wf8 (x : Int) (h : (Lit.int .u8 x).wf = true) : 0 ≤ x ∧ x ≤ 255 := by
  simp only [Lit.wf, Bool.and_eq_true, decide_eq_true_eq] at h
  have e1 : IntKind.u8.min = 0 := by decide +kernel
  have e2 : IntKind.u8.max = 255 := by decide +kernel
  omega
theorem wf32 (x : Int) (h : (Lit.int .u32 x).wf = true) : 0 ≤ x ∧ x ≤ 4294967295 := by
  simp only [Lit.wf, Bool.and_eq_true, decide_eq_true_eq] at h
  have e1 : IntKind.u32.min = 0 := by decide +kernel
  have e2 : IntKind.u32.max = 4294967295 := by decide +kernel
  omega
theorem TreeMore : prebendlaw08_TreeMore.Pure := by
  intro l m a2 a3 _ _ w2 w3
  refine ⟨1002, ?_⟩
  have b2 : 0 ≤ a2 ∧ a2 ≤ 255 := wf8 a2 w2
  have b3 : 0 ≤ a3 ∧ a3 ≤ 4294967295 := wf32 a3 w3
  have hl : (l.take 20).length ≤ 20 := by rw [List.length_take]; omega
  have hm : (m.take 20).length ≤ 20 := by rw [List.length_take]; omega
  unfold prebendlaw08_TreeMore.f
  rw [few_eq]
  generalize l.take 20 = x at hl
  generalize m.take 20 = y at hm
  simp only [Option.bind_some]
  rw [tgood_eq x hl 1002 (by omega)]
  simp only [Option.bind_some]
  have jt : prebendlaw08_TreeMore.j0 1002 a2 a3 x y true = some true := by
    simp only [prebendlaw08_TreeMore.j0]
    rw [if_pos trivial, awake_at 1001 (by omega)]; rfl
  by_cases g : (decide (x.length ≤ 8) && goodN x x.length 0) = true
  · have g2 : goodN x x.length 0 = true := (Bool.and_eq_true _ _ ▸ g).2
    rw [if_pos g]
    by_cases c1 : (y.length : Int) = 0
    · rw [if_pos c1]; exact jt
    · rw [if_neg c1]
      by_cases c2 : (x.length : Int) = 0
      · rw [beq_iff_eq.mpr c2]; exact jt
      · rw [beq_eq_false_iff_ne.mpr c2]
        simp only [prebendlaw08_TreeMore.j0]
        rw [if_neg (by simp)]
        simp only [Option.bind_some]
        rw [if_pos (by simp; omega), List.nil_append]
        have hw2 : wrap64 a2 = a2 := wrap_id a2 (by omega) (by omega)
        have hw3 : wrap64 a3 = a3 := wrap_id a3 (by omega) (by omega)
        refine more_l0 x y y hm (by omega) a2 a3 (by omega) ?_ y.length 1001 0 (by omega) (by omega) (by omega) (by simp)
        intro ho k hk
        have t0 := Int.tmod_nonneg (y.length : Int) (show 0 ≤ wrap64 a2 by omega)
        have t1 := Int.tmod_lt_of_pos (wrap64 a2) (show (0 : Int) < (y.length : Int) by omega)
        generalize Int.tmod (wrap64 a2) (y.length : Int) = q at t0 t1
        obtain ⟨j, rfl⟩ : ∃ j : Nat, q = (j : Int) := ⟨q.toNat, by omega⟩
        have hj : j < y.length := by omega
        have hr : y[j]? = some (rd_T43 y (j : Int)) := by simp [rd_T43, hj]
        have ha := ho _ (List.mem_of_getElem? hr)
        have oy : ∀ a ∈ y, okA a := by
          intro a q; have := ho a q; unfold okB at this; unfold okA; omega
        generalize hA : rd_T43 y (j : Int) = A at hr ha
        unfold okB at ha
        rw [hw3, wrap_id (A.f5 + a3) (by omega) (by omega), show ((j : Int)).toNat = j by omega]
        generalize hB : (⟨A.f0, A.f1, A.f2, A.f3, A.f4, A.f5 + a3⟩ : S43) = B
        have hrB : rd_T43 (y.set j B) (j : Int) = B := by simp [rd_T43, hj]
        have oz : ∀ a ∈ y.set j B, okA a := by
          intro a q
          rcases List.mem_or_eq_of_mem_set q with q | rfl
          · exact oy a q
          · subst hB; unfold okA; simp only; omega
        refine more_l1 x hl g2 y (y.set j B) hm (by simpa using hm) oy oz a3 a3 hw3 (by omega) j (by simpa using hj) ?_ x.length k 0 (by omega) (by omega) (by omega)
        intro f
        rw [hrB, sum_set x f a3 B y j A hr (by subst hB; rfl) (by subst hB; rfl) (by subst hB; rfl)]
        subst hB; rfl
  · rw [if_neg g]; exact jt

end Go.Proofs.Ytfdlncakhnlgoaa.Pure
