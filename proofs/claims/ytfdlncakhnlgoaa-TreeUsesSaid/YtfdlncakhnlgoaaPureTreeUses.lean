/- How much is used of any fund, and which limit does not hold first, is what the document says: for all funds, allocations and numbers that a call may be handed; no conditions. -/
import Derived.Test.YtfdlncakhnlgoaaPAllx24
import Derived.Laws.BitsLemmas
set_option linter.unusedVariables false
set_option linter.unusedSimpArgs false
namespace Go.Proofs.Ytfdlncakhnlgoaa.Pure
open Go Go.RowKit Go.Proofs.Ytfdlncakhnlgoaa.PAll Go.Proofs.YtfdlncakhnlgoaaW.PrintWords Go.Proofs.YtfdlncakhnlgoaaW.PrintLast

def fitB (n : Int) : Bool := decide (-1152921504606846976 ≤ n) && decide (n ≤ 1152921504606846976)
theorem fitB_iff (n : Int) : fitB n = true ↔ -1152921504606846976 ≤ n ∧ n ≤ 1152921504606846976 := by simp [fitB]
theorem rd_drop (l : List Int) (i : Nat) (h : i < l.length) : l.drop i = rd l (i : Int) :: l.drop (i + 1) := by
  rw [List.drop_eq_getElem_cons h]; simp [rd, h]
theorem wrap_id (n : Int) (h : -9223372036854775808 ≤ n) (h2 : n < 9223372036854775808) : wrap64 n = n := by unfold wrap64; omega

theorem fits_eq (n : Int) : money_fits.f n = some (fitB n) := by
  unfold money_fits.f fitB
  by_cases h : n ≥ -1152921504606846976
  · rw [if_pos h]; simp [h]
  · rw [if_neg h]; simp [h]

theorem Fits_eq (n : Int) : prebendref01_Fits.f n = some (fitB n) := by
  unfold prebendref01_Fits.f fitB
  by_cases h : n ≥ -1152921504606846976
  · rw [if_pos h]; simp [h]
  · rw [if_neg h]; simp [h]

def addS : Int → List Int → Int × Int
  | s, [] => (s, 0)
  | s, x :: xs => if fitB x && fitB (s + x) then addS (s + x) xs else (0, 2)

theorem add_l0 (l : List Int) (hl : l.length < 9223372036854775807) (d : Nat) : ∀ (k i : Nat) (s : Int), l.length - i = d → i ≤ l.length → d < k → fitB s = true →
    money_Add.l0 k s l (l.length : Int) (i : Int) = some (addS s (l.drop i)) := by
  induction d with
  | zero =>
    intro k i s hd hi hk hs
    obtain ⟨k, rfl⟩ : ∃ m, k = m + 1 := ⟨k - 1, by omega⟩
    have : i = l.length := by omega
    subst this
    simp only [money_Add.l0]
    rw [if_neg (by omega)]; simp [addS]
  | succ d ih =>
    intro k i s hd hi hk hs
    obtain ⟨k, rfl⟩ : ∃ m, k = m + 1 := ⟨k - 1, by omega⟩
    simp only [money_Add.l0]
    rw [if_pos (by omega), if_pos (by omega), if_pos (by omega), rd_drop l i (by omega), fits_eq]
    simp only [Option.bind_some, addS]
    have hs' := (fitB_iff s).1 hs
    by_cases h1 : fitB (rd l i) = true
    · rw [if_pos h1]
      have h1' := (fitB_iff _).1 h1
      rw [wrap_id (s + rd l i) (by omega) (by omega), fits_eq]
      simp only [Option.bind_some, h1, Bool.true_and]
      by_cases h2 : fitB (s + rd l i) = true
      · rw [if_pos h2, if_pos h2, wrap_id (↑i + 1) (by omega) (by omega)]
        exact ih k (i + 1) _ (by omega) (by omega) (by omega) h2
      · rw [if_neg h2, if_neg h2]
    · rw [if_neg h1]
      simp [h1]
theorem add_eq (l : List Int) (hl : l.length < 9223372036854775807) (k : Nat) (hk : l.length < k) : money_Add.f k l = some (addS 0 l) := by
  have := add_l0 l hl l.length k 0 0 (by omega) (by omega) hk (by decide)
  simpa [money_Add.f] using this

theorem Add_l0 (l : List Int) (hl : l.length < 9223372036854775807) (d : Nat) : ∀ (k i : Nat) (s : Int), l.length - i = d → i ≤ l.length → d < k → fitB s = true →
    prebendref01_Add.l0 k l s (i : Int) = some (addS s (l.drop i)) := by
  induction d with
  | zero =>
    intro k i s hd hi hk hs
    obtain ⟨k, rfl⟩ : ∃ m, k = m + 1 := ⟨k - 1, by omega⟩
    have : i = l.length := by omega
    subst this
    simp only [prebendref01_Add.l0]
    rw [if_neg (by omega)]; simp [addS]
  | succ d ih =>
    intro k i s hd hi hk hs
    obtain ⟨k, rfl⟩ : ∃ m, k = m + 1 := ⟨k - 1, by omega⟩
    simp only [prebendref01_Add.l0]
    rw [if_pos (by omega), if_pos (by omega), rd_drop l i (by omega), Fits_eq]
    simp only [Option.bind_some, addS]
    have hs' := (fitB_iff s).1 hs
    by_cases h1 : fitB (rd l i) = true
    · rw [if_pos h1]
      have h1' := (fitB_iff _).1 h1
      rw [wrap_id (s + rd l i) (by omega) (by omega), wrap_id (1152921504606846976 - rd l i) (by omega) (by omega), wrap_id (-1152921504606846976 - rd l i) (by omega) (by omega), wrap_id (↑i + 1) (by omega) (by omega)]
      simp only [h1, Bool.true_and]
      by_cases h2 : fitB (s + rd l i) = true
      · have h2' := (fitB_iff _).1 h2
        have e := ih k (i + 1) _ (by omega) (by omega) (by omega) h2
        rw [if_pos h2]
        rw [← e]
        repeat' split
        all_goals first | rfl | omega
      · have h2' : ¬ _ := fun h => h2 ((fitB_iff _).2 h)
        rw [if_neg h2]
        repeat' split
        all_goals first | rfl | omega
    · rw [if_neg h1]
      simp [h1]
theorem Add_eq (l : List Int) (hl : l.length < 9223372036854775807) (k : Nat) (hk : l.length < k) : prebendref01_Add.f k l = some (addS 0 l) := by
  have := Add_l0 l hl l.length k 0 0 (by omega) (by omega) hk (by decide)
  simpa [prebendref01_Add.f] using this

theorem name_empty (x : ByteArray) : (x.toList == []) = decide ((x.size : Int) < 1) := by
  rw [Go.ByteArray.toList_eq]
  have hlen : x.data.toList.length = x.size := by cases x; rfl
  by_cases h : x.data.toList = []
  · have : x.size = 0 := by rw [← hlen, h]; rfl
    simp [h, this]
  · have : x.size ≠ 0 := by rw [← hlen]; intro q; exact h (List.length_eq_zero_iff.mp q)
    rw [beq_eq_false_iff_ne.mpr h]
    symm; apply decide_eq_false; omega
theorem few_eq (l : List S40) (m : List S43) : prebendlaw08_few.f l m = some (l.take 20, m.take 20) := by
  unfold prebendlaw08_few.f
  by_cases h : (l.length : Int) > 20
  · by_cases h2 : (m.length : Int) > 20
    · rw [if_pos h, if_pos (by omega)]; simp only [Option.bind_some]; rw [if_pos h2, if_pos (by omega)]
    · rw [if_pos h, if_pos (by omega)]; simp only [Option.bind_some]; rw [if_neg h2, List.take_of_length_le (l := m) (by omega)]
  · by_cases h2 : (m.length : Int) > 20
    · rw [if_neg h, if_pos h2, if_pos (by omega), List.take_of_length_le (l := l) (by omega)]
    · rw [if_neg h, if_neg h2, List.take_of_length_le (l := m) (by omega), List.take_of_length_le (l := l) (by omega)]
/-- The way up of a fund. -/
def pathN (l : List S40) : Nat → Int → List Int
  | 0, _ => []
  | n + 1, f => if 0 ≤ f ∧ f < (l.length : Int) then f :: (if (rd_T40 l f).f1 ≥ f then [] else pathN l n (rd_T40 l f).f1) else []
theorem pathN_neg (l : List S40) (n : Nat) (f : Int) (h : f < 0) : pathN l n f = [] := by
  cases n with
  | zero => rfl
  | succ n => simp only [pathN]; rw [if_neg (by omega)]
theorem pathN_fuel (l : List S40) : ∀ (n m : Nat) (f : Int), f < n → f < m → pathN l n f = pathN l m f := by
  intro n
  induction n with
  | zero => intro m f h1 h2; rw [pathN_neg l m f (by omega)]; rfl
  | succ n ih =>
    intro m f h1 h2
    cases m with
    | zero => rw [pathN_neg l _ f (by omega)]; rfl
    | succ m =>
      simp only [pathN]
      by_cases h : 0 ≤ f ∧ f < (l.length : Int)
      · rw [if_pos h, if_pos h]
        by_cases g : (rd_T40 l f).f1 ≥ f
        · rw [if_pos g, if_pos g]
        · rw [if_neg g, if_neg g, ih m _ (by omega) (by omega)]
      · rw [if_neg h, if_neg h]
def path (l : List S40) (f : Int) : List Int := pathN l (l.length + 1) f
theorem path_out (l : List S40) (f : Int) (h : ¬ (0 ≤ f ∧ f < (l.length : Int))) : path l f = [] := by
  unfold path; simp only [pathN]; rw [if_neg h]
theorem path_in (l : List S40) (f : Int) (h : 0 ≤ f ∧ f < (l.length : Int)) : path l f = f :: (if (rd_T40 l f).f1 ≥ f then [] else path l (rd_T40 l f).f1) := by
  unfold path
  conv => lhs; simp only [pathN]
  rw [if_pos h]
  by_cases g : (rd_T40 l f).f1 ≥ f
  · rw [if_pos g, if_pos g]
  · rw [if_neg g, if_neg g, pathN_fuel l l.length (l.length + 1) _ (by omega) (by omega)]
theorem pathN_len (l : List S40) : ∀ (n : Nat) (f : Int), (pathN l n f).length ≤ n := by
  intro n
  induction n with
  | zero => intro f; simp [pathN]
  | succ n ih =>
    intro f
    simp only [pathN]
    split
    · split
      · simp
      · have := ih (rd_T40 l f).f1; simp; omega
    · simp
theorem path_len (l : List S40) (f : Int) : (path l f).length ≤ l.length + 1 := pathN_len l _ f
theorem tpath_l0 (l : List S40) : ∀ (n k : Nat) (f : Int) (acc : List Int), f < n → 2 * n + 2 ≤ k → acc.length + n < 17592186044416 → tree_Path.l0 k l f acc = some (acc ++ pathN l n f) := by
  intro n
  induction n with
  | zero =>
    intro k f acc h1 h2 h3
    obtain ⟨k, rfl⟩ : ∃ m, k = m + 2 := ⟨k - 2, by omega⟩
    simp only [tree_Path.l0]
    rw [if_neg (by omega)]
    simp [tree_Path.j1, slices_Clip_int.f, pathN]
  | succ n ih =>
    intro k f acc h1 h2 h3
    obtain ⟨k, rfl⟩ : ∃ m, k = m + 2 := ⟨k - 2, by omega⟩
    simp only [tree_Path.l0, pathN]
    by_cases h0 : f ≥ 0
    · rw [if_pos h0]
      simp only [tree_Path.j1]
      by_cases hl : f < (l.length : Int)
      · rw [if_pos (decide_eq_true hl), if_pos (by omega), if_pos ⟨h0, hl⟩]
        simp only [Option.bind_some]
        rw [if_pos h0, if_pos hl]
        by_cases g : (rd_T40 l f).f1 ≥ f
        · rw [if_pos g, if_pos g]; simp [slices_Clip_int.f]
        · rw [if_neg g, if_neg g, ih k _ _ (by omega) (by omega) (by simp; omega)]
          simp
      · rw [if_neg (by simpa using hl), if_neg (fun h => hl h.2)]
        simp [slices_Clip_int.f]
    · rw [if_neg h0, if_neg (fun h => h0 h.1)]
      simp [tree_Path.j1, slices_Clip_int.f]
theorem tpath_eq (l : List S40) (hl : l.length ≤ 20) (f : Int) (k : Nat) (hk : 50 ≤ k) : tree_Path.f k l f = some (path l f) := by
  unfold tree_Path.f
  by_cases h : f < (l.length : Int)
  · rw [tpath_l0 l (l.length + 1) k f [] (by omega) (by omega) (by simp; omega)]; simp [path]
  · obtain ⟨k, rfl⟩ : ∃ m, k = m + 2 := ⟨k - 2, by omega⟩
    rw [path_out l f (by omega)]
    simp only [tree_Path.l0]
    rw [if_pos (by omega)]
    simp only [tree_Path.j1]
    rw [if_neg (by simpa using h)]
    simp [slices_Clip_int.f]
theorem ints_l0 (a b : List Int) (hl : a.length = b.length) (hb : a.length < 9223372036854775807) : ∀ (d k i : Nat), a.length - i = d → i ≤ a.length → d < k → prebendref01_Ints.l0 k a b (i : Int) = some (decide (a.drop i = b.drop i)) := by
  intro d
  induction d with
  | zero =>
    intro k i hd hi hk
    obtain ⟨k, rfl⟩ : ∃ m, k = m + 1 := ⟨k - 1, by omega⟩
    simp only [prebendref01_Ints.l0]
    rw [if_neg (by omega), List.drop_of_length_le (by omega), List.drop_of_length_le (by omega)]; simp
  | succ d ih =>
    intro k i hd hi hk
    obtain ⟨k, rfl⟩ : ∃ m, k = m + 1 := ⟨k - 1, by omega⟩
    simp only [prebendref01_Ints.l0]
    rw [if_pos (by omega), if_pos (by omega), if_pos (by omega), rd_drop a i (by omega), rd_drop b i (by omega)]
    by_cases h : rd a i = rd b i
    · rw [if_pos h, wrap_id _ (by omega) (by omega)]
      have := ih k (i + 1) (by omega) (by omega) (by omega)
      rw [show ((i : Int) + 1) = ((i + 1 : Nat) : Int) by omega, this, h]
      simp
    · rw [if_neg h]; simp [h]
theorem ints_eq (a b : List Int) (k : Nat) (ha : a.length < 9223372036854775807) (hk : a.length < k) : prebendref01_Ints.f k a b = some (decide (a = b)) := by
  unfold prebendref01_Ints.f
  by_cases h : (a.length : Int) = (b.length : Int)
  · rw [if_pos h]
    have := ints_l0 a b (by omega) ha a.length k 0 (by omega) (by omega) hk
    simpa using this
  · rw [if_neg h]; congr 1; symm; apply decide_eq_false; intro e; exact h (by rw [e])

theorem rpath_f (l : List S40) : ∀ (n k : Nat) (f : Int), n ≤ 100 → f < n → 2 * n + 2 ≤ k → prebendref08_Path.f k l f = some (pathN l n f) := by
  intro n
  induction n with
  | zero =>
    intro k f hn h1 h2
    obtain ⟨k, rfl⟩ : ∃ m, k = m + 2 := ⟨k - 2, by omega⟩
    simp only [prebendref08_Path.f]
    rw [if_pos (by omega)]
    simp [prebendref08_Path.j0, pathN]
  | succ n ih =>
    intro k f hn h1 h2
    obtain ⟨k, rfl⟩ : ∃ m, k = m + 2 := ⟨k - 2, by omega⟩
    simp only [prebendref08_Path.f, pathN]
    by_cases h0 : f < 0
    · rw [if_pos h0, if_neg (by omega)]; simp [prebendref08_Path.j0]
    · rw [if_neg h0]
      simp only [prebendref08_Path.j0]
      by_cases hl : f < (l.length : Int)
      · rw [if_neg (by simpa using hl), if_pos (by omega), if_pos hl, if_pos (show 0 ≤ f ∧ f < (l.length : Int) from ⟨by omega, hl⟩)]
        by_cases g : (rd_T40 l f).f1 ≥ f
        · rw [if_pos g, if_pos g]
        · rw [if_neg g, if_neg g, ih k _ (by omega) (by omega) (by omega)]
          simp only [Option.bind_some]
          have := pathN_len l n (rd_T40 l f).f1
          rw [if_pos (by simp; omega)]
          simp
      · rw [if_pos (by simpa using hl), if_neg (fun h => hl h.2)]
theorem rpath_eq (l : List S40) (hl : l.length ≤ 20) (f : Int) (k : Nat) (hk : 50 ≤ k) : prebendref08_Path.f k l f = some (path l f) := by
  by_cases h : f < (l.length : Int)
  · exact rpath_f l (l.length + 1) k f (by omega) (by omega) (by omega)
  · obtain ⟨k, rfl⟩ : ∃ m, k = m + 2 := ⟨k - 2, by omega⟩
    rw [path_out l f (by omega)]
    simp only [prebendref08_Path.f]
    rw [if_neg (by omega)]
    simp only [prebendref08_Path.j0]
    rw [if_pos (by simpa using h)]

theorem rd43_drop (l : List S43) (i : Nat) (h : i < l.length) : l.drop i = rd_T43 l (i : Int) :: l.drop (i + 1) := by
  rw [List.drop_eq_getElem_cons h]; simp [rd_T43, h]
/-- What is liened and spent of a fund, and below it. -/
def useL (l : List S40) (f : Int) : List S43 → List Int
  | [] => []
  | a :: rs => (if f ∈ path l a.f0 then [a.f4, a.f5] else []) ++ useL l f rs
theorem useL_len (l : List S40) (f : Int) (m : List S43) : (useL l f m).length ≤ 2 * m.length := by
  induction m with
  | nil => simp [useL]
  | cons a rs ih => simp only [useL]; split <;> simp <;> omega
theorem index_l0 (l : List Int) (hl : l.length < 9223372036854775807) (y : Int) : ∀ (d k i : Nat), l.length - i = d → i ≤ l.length → d < k → ∃ r, slices_Index_int.l0 k l y (l.length : Int) (i : Int) = some r ∧ decide (r ≥ 0) = decide (y ∈ l.drop i) := by
  intro d
  induction d with
  | zero =>
    intro k i hd hi hk
    obtain ⟨k, rfl⟩ : ∃ m, k = m + 1 := ⟨k - 1, by omega⟩
    refine ⟨-1, ?_, ?_⟩
    · simp only [slices_Index_int.l0]; rw [if_neg (by omega)]
    · rw [List.drop_of_length_le (by omega)]; simp
  | succ d ih =>
    intro k i hd hi hk
    obtain ⟨k, rfl⟩ : ∃ m, k = m + 1 := ⟨k - 1, by omega⟩
    simp only [slices_Index_int.l0]
    rw [if_pos (by omega), if_pos (by omega), if_pos (by omega), rd_drop l i (by omega)]
    by_cases h : y = rd l i
    · rw [if_pos h]; exact ⟨i, rfl, by simp [h]⟩
    · rw [if_neg h, wrap_id _ (by omega) (by omega)]
      obtain ⟨r, h1, h2⟩ := ih k (i + 1) (by omega) (by omega) (by omega)
      refine ⟨r, ?_, ?_⟩
      · rw [show ((i : Int) + 1) = ((i + 1 : Nat) : Int) by omega]; exact h1
      · rw [h2]; simp [h]
theorem has_eq (l : List Int) (hl : l.length < 9223372036854775807) (y : Int) (k : Nat) (hk : l.length < k) : slices_Contains_int.f k l y = some (decide (y ∈ l)) := by
  obtain ⟨r, h1, h2⟩ := index_l0 l hl y l.length k 0 (by omega) (by omega) hk
  unfold slices_Contains_int.f slices_Index_int.f
  rw [show (0 : Int) = ((0 : Nat) : Int) by rfl, h1]
  simp only [Option.bind_some]
  rw [show (((0 : Nat) : Int)) = (0 : Int) by rfl, h2]; simp
theorem tuse_l0 (l : List S40) (hl : l.length ≤ 20) (f : Int) (m : List S43) (hm : m.length ≤ 20) : ∀ (d k i : Nat) (acc : List Int), m.length - i = d → i ≤ m.length → acc.length ≤ 2 * i → 100 + d ≤ k →
    tree_Use.l0 k l f acc m (m.length : Int) (i : Int) = some (addS 0 (acc ++ useL l f (m.drop i))) := by
  intro d
  induction d with
  | zero =>
    intro k i acc hd hi ha hk
    obtain ⟨k, rfl⟩ : ∃ m, k = m + 1 := ⟨k - 1, by omega⟩
    simp only [tree_Use.l0]
    rw [if_neg (by omega), List.drop_of_length_le (by omega), add_eq _ (by omega) _ (by omega)]
    simp [useL]
  | succ d ih =>
    intro k i acc hd hi ha hk
    obtain ⟨k, rfl⟩ : ∃ m, k = m + 1 := ⟨k - 1, by omega⟩
    have hp := path_len l (rd_T43 m i).f0
    simp only [tree_Use.l0]
    rw [if_pos (by omega), if_pos (by omega), if_pos (by omega), tpath_eq l hl _ k (by omega)]
    simp only [Option.bind_some]
    rw [has_eq _ (by omega) _ k (by omega), rd43_drop m i (by omega)]
    simp only [Option.bind_some, useL]
    rw [wrap_id _ (by omega) (by omega), show ((i : Int) + 1) = ((i + 1 : Nat) : Int) by omega]
    by_cases h : f ∈ path l (rd_T43 m i).f0
    · rw [if_pos (decide_eq_true h), if_pos (by simp; omega), if_pos h, ih k (i + 1) _ (by omega) (by omega) (by simp; omega) (by omega)]
      simp
    · rw [if_neg (by simpa using h), if_neg h, ih k (i + 1) _ (by omega) (by omega) (by omega) (by omega)]
      simp
/-- What is used of a fund, and whether it fits. -/
def useS (l : List S40) (m : List S43) (f : Int) : Int × Int := if 0 ≤ f ∧ f < (l.length : Int) then addS 0 (useL l f m) else (0, 4)
theorem tuse_eq (l : List S40) (hl : l.length ≤ 20) (m : List S43) (hm : m.length ≤ 20) (f : Int) (k : Nat) (hk : 150 ≤ k) : tree_Use.f k l m f = some (useS l m f) := by
  obtain ⟨k, rfl⟩ : ∃ m, k = m + 1 := ⟨k - 1, by omega⟩
  unfold tree_Use.f useS
  simp only [tree_Use.j0]
  by_cases h1 : f < 0
  · rw [if_pos h1, if_neg (show ¬ (0 ≤ f ∧ f < (l.length : Int)) by omega)]; simp
  · rw [if_neg h1]
    by_cases h2 : f < (l.length : Int)
    · rw [if_neg (by simpa using h2), if_pos ⟨by omega, h2⟩]
      have := tuse_l0 l hl f m hm m.length k 0 [] (by omega) (by omega) (by simp) (by omega)
      simpa using this
    · rw [if_pos (by simpa using h2), if_neg (by omega)]

theorem below_l0 (l : List Int) (hl : l.length < 9223372036854775807) (y : Int) : ∀ (d k i : Nat), l.length - i = d → i ≤ l.length → d < k → prebendref08_Below.l0 k y l (i : Int) = some (decide (y ∈ l.drop i)) := by
  intro d
  induction d with
  | zero =>
    intro k i hd hi hk
    obtain ⟨k, rfl⟩ : ∃ m, k = m + 1 := ⟨k - 1, by omega⟩
    simp only [prebendref08_Below.l0]; rw [if_neg (by omega), List.drop_of_length_le (by omega)]; simp
  | succ d ih =>
    intro k i hd hi hk
    obtain ⟨k, rfl⟩ : ∃ m, k = m + 1 := ⟨k - 1, by omega⟩
    simp only [prebendref08_Below.l0]
    rw [if_pos (by omega), if_pos (by omega), rd_drop l i (by omega)]
    by_cases h : rd l i = y
    · rw [if_pos h]; simp [h]
    · rw [if_neg h, wrap_id _ (by omega) (by omega), show ((i : Int) + 1) = ((i + 1 : Nat) : Int) by omega, ih k (i + 1) (by omega) (by omega) (by omega)]
      have h' : ¬ y = rd l i := fun e => h e.symm
      simp [h']
theorem below_eq (l : List S40) (hl : l.length ≤ 20) (a f : Int) (k : Nat) (hk : 50 ≤ k) : prebendref08_Below.f k l a f = some (decide (f ∈ path l a)) := by
  have hp := path_len l a
  have := below_l0 (path l a) (by omega) f (path l a).length k 0 (by omega) (by omega) (by omega)
  unfold prebendref08_Below.f
  rw [rpath_eq l hl a k hk]
  simpa using this
theorem ruse_l0 (l : List S40) (hl : l.length ≤ 20) (f : Int) (m : List S43) (hm : m.length ≤ 20) : ∀ (d k i : Nat) (acc : List Int), m.length - i = d → i ≤ m.length → acc.length ≤ 2 * i → 100 + d ≤ k →
    prebendref08_Use.l0 k l m f acc (i : Int) = some (addS 0 (acc ++ useL l f (m.drop i))) := by
  intro d
  induction d with
  | zero =>
    intro k i acc hd hi ha hk
    obtain ⟨k, rfl⟩ : ∃ m, k = m + 1 := ⟨k - 1, by omega⟩
    simp only [prebendref08_Use.l0]
    rw [if_neg (by omega), List.drop_of_length_le (by omega), Add_eq _ (by omega) _ (by omega)]
    simp [useL]
  | succ d ih =>
    intro k i acc hd hi ha hk
    obtain ⟨k, rfl⟩ : ∃ m, k = m + 1 := ⟨k - 1, by omega⟩
    simp only [prebendref08_Use.l0]
    rw [if_pos (by omega), if_pos (by omega), below_eq l hl _ f k (by omega), rd43_drop m i (by omega)]
    simp only [Option.bind_some, useL]
    rw [wrap_id _ (by omega) (by omega), show ((i : Int) + 1) = ((i + 1 : Nat) : Int) by omega]
    by_cases h : f ∈ path l (rd_T43 m i).f0
    · rw [if_pos (decide_eq_true h), if_pos (by simp; omega), if_pos (by simp; omega), if_pos h, ih k (i + 1) _ (by omega) (by omega) (by simp; omega) (by omega)]
      simp
    · rw [if_neg (by simpa using h), if_neg h, ih k (i + 1) _ (by omega) (by omega) (by omega) (by omega)]
      simp
theorem ruse_eq (l : List S40) (hl : l.length ≤ 20) (m : List S43) (hm : m.length ≤ 20) (f : Int) (k : Nat) (hk : 150 ≤ k) : prebendref08_Use.f k l m f = some (useS l m f) := by
  obtain ⟨k, rfl⟩ : ∃ m, k = m + 1 := ⟨k - 1, by omega⟩
  unfold prebendref08_Use.f useS
  simp only [prebendref08_Use.j0]
  by_cases h1 : f < 0
  · rw [if_pos h1, if_neg (show ¬ (0 ≤ f ∧ f < (l.length : Int)) by omega)]; simp
  · rw [if_neg h1]
    by_cases h2 : f < (l.length : Int)
    · rw [if_neg (by simpa using h2), if_pos ⟨by omega, h2⟩]
      have := ruse_l0 l hl f m hm m.length k 0 [] (by omega) (by omega) (by simp) (by omega)
      simpa using this
    · rw [if_pos (by simpa using h2), if_neg (by omega)]
theorem over_eq (l : List S40) (hl : l.length ≤ 20) (m : List S43) (hm : m.length ≤ 20) : ∀ (d k i : Nat), l.length - i = d → i ≤ l.length → 200 + d ≤ k → ∃ r, tree_Over.l0 k l m l (l.length : Int) (i : Int) = some r ∧ prebendref08_Over.l0 k l m (i : Int) = some r := by
  intro d
  induction d with
  | zero =>
    intro k i hd hi hk
    obtain ⟨k, rfl⟩ : ∃ m, k = m + 1 := ⟨k - 1, by omega⟩
    refine ⟨-1, ?_, ?_⟩
    · simp only [tree_Over.l0]; rw [if_neg (by omega)]
    · simp only [prebendref08_Over.l0]; rw [if_neg (by omega)]
  | succ d ih =>
    intro k i hd hi hk
    obtain ⟨k, rfl⟩ : ∃ m, k = m + 1 := ⟨k - 1, by omega⟩
    obtain ⟨r, h1, h2⟩ := ih k (i + 1) (by omega) (by omega) (by omega)
    simp only [tree_Over.l0, prebendref08_Over.l0]
    have a1 : (i : Int) < (l.length : Int) := by omega
    have a2 : 0 ≤ (i : Int) := by omega
    simp only [if_pos a1, if_pos a2]
    rw [tuse_eq l hl m hm _ k (by omega), ruse_eq l hl m hm _ k (by omega)]
    simp only [Option.bind_some]
    rw [wrap_id _ (by omega) (by omega), show ((i : Int) + 1) = ((i + 1 : Nat) : Int) by omega, h1, h2]
    generalize useS l m (i : Int) = u
    by_cases c1 : (rd_T40 l (i : Int)).f2 ≤ 0
    · rw [if_pos c1, if_neg (by omega)]; exact ⟨r, rfl, rfl⟩
    · have c1' : (rd_T40 l (i : Int)).f2 > 0 := by omega
      simp only [if_neg c1, if_pos c1']
      by_cases c2 : u.2 = 0
      · simp only [if_pos c2]
        by_cases c3 : u.1 > (rd_T40 l (i : Int)).f2
        · simp only [if_pos c3]; exact ⟨_, rfl, rfl⟩
        · simp only [if_neg c3]; exact ⟨r, rfl, rfl⟩
      · simp only [if_neg c2]; exact ⟨_, rfl, rfl⟩

theorem awake_300 : prebendlaw08_awake.f 300 = some true := by decide +kernel
theorem TreeUses : prebendlaw08_TreeUses.Pure := by
  intro l m a _ _ _
  refine ⟨300, ?_⟩
  have hl : (l.take 20).length ≤ 20 := by rw [List.length_take]; omega
  have hm : (m.take 20).length ≤ 20 := by rw [List.length_take]; omega
  unfold prebendlaw08_TreeUses.f
  rw [few_eq]
  simp only [Option.bind_some]
  obtain ⟨r, h1, h2⟩ := over_eq (l.take 20) hl (m.take 20) hm (l.take 20).length 300 0 (by omega) (by omega) (by omega)
  have g1 : tree_Over.f 300 (l.take 20) (m.take 20) = some r := h1
  have g2 : prebendref08_Over.f 300 (l.take 20) (m.take 20) = some r := h2
  rw [tuse_eq _ hl _ hm a 300 (by omega), ruse_eq _ hl _ hm a 300 (by omega), awake_300, g1, g2]
  simp

end Go.Proofs.Ytfdlncakhnlgoaa.Pure
