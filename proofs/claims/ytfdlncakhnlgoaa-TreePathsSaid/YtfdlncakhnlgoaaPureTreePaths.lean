/- Whether any funds may be, and what lies above any one, is what the document says: for all funds and all numbers that a call may be handed; no conditions. -/
import Derived.Test.YtfdlncakhnlgoaaPAllx18
import Derived.Laws.BitsLemmas
set_option linter.unusedVariables false
set_option linter.unusedSimpArgs false
namespace Go.Proofs.Ytfdlncakhnlgoaa.Pure
open Go Go.RowKit Go.Proofs.Ytfdlncakhnlgoaa.PAll Go.Proofs.YtfdlncakhnlgoaaW.PrintWords Go.Proofs.YtfdlncakhnlgoaaW.PrintLast

def fitB (n : Int) : Bool := decide (-1152921504606846976 ≤ n) && decide (n ≤ 1152921504606846976)
theorem fitB_iff (n : Int) : fitB n = true ↔ -1152921504606846976 ≤ n ∧ n ≤ 1152921504606846976 := by simp [fitB]
theorem rd_drop (l : List Int) (i : Nat) (h : i < l.length) : l.drop i = rd l (i : Int) :: l.drop (i + 1) := by
  rw [List.drop_eq_getElem_cons h]; simp [rd, h]
theorem wrap_id (n : Int) (h : -9223372036854775808 ≤ n) (h2 : n < 9223372036854775808) : wrap64 n = n := by unfold wrap64; omega

theorem name_empty (x : ByteArray) : (x.toList == []) = decide ((x.size : Int) < 1) := by
  rw [Go.ByteArray.toList_eq]
  have hlen : x.data.toList.length = x.size := by cases x; rfl
  by_cases h : x.data.toList = []
  · have : x.size = 0 := by rw [← hlen, h]; rfl
    simp [h, this]
  · have : x.size ≠ 0 := by rw [← hlen]; intro q; exact h (List.length_eq_zero_iff.mp q)
    rw [beq_eq_false_iff_ne.mpr h]
    symm; apply decide_eq_false; omega
theorem few_eq (l : List S40) (m : List S43) : prebendlaw08_few.f l m = some (l.take 20, m.take 20) := by
  unfold prebendlaw08_few.f
  by_cases h : (l.length : Int) > 20
  · by_cases h2 : (m.length : Int) > 20
    · rw [if_pos h, if_pos (by omega)]; simp only [Option.bind_some]; rw [if_pos h2, if_pos (by omega)]
    · rw [if_pos h, if_pos (by omega)]; simp only [Option.bind_some]; rw [if_neg h2, List.take_of_length_le (l := m) (by omega)]
  · by_cases h2 : (m.length : Int) > 20
    · rw [if_neg h, if_pos h2, if_pos (by omega), List.take_of_length_le (l := l) (by omega)]
    · rw [if_neg h, if_neg h2, List.take_of_length_le (l := m) (by omega), List.take_of_length_le (l := l) (by omega)]
/-- The way up of a fund. -/
def pathN (l : List S40) : Nat → Int → List Int
  | 0, _ => []
  | n + 1, f => if 0 ≤ f ∧ f < (l.length : Int) then f :: (if (rd_T40 l f).f1 ≥ f then [] else pathN l n (rd_T40 l f).f1) else []
theorem pathN_neg (l : List S40) (n : Nat) (f : Int) (h : f < 0) : pathN l n f = [] := by
  cases n with
  | zero => rfl
  | succ n => simp only [pathN]; rw [if_neg (by omega)]
theorem pathN_fuel (l : List S40) : ∀ (n m : Nat) (f : Int), f < n → f < m → pathN l n f = pathN l m f := by
  intro n
  induction n with
  | zero => intro m f h1 h2; rw [pathN_neg l m f (by omega)]; rfl
  | succ n ih =>
    intro m f h1 h2
    cases m with
    | zero => rw [pathN_neg l _ f (by omega)]; rfl
    | succ m =>
      simp only [pathN]
      by_cases h : 0 ≤ f ∧ f < (l.length : Int)
      · rw [if_pos h, if_pos h]
        by_cases g : (rd_T40 l f).f1 ≥ f
        · rw [if_pos g, if_pos g]
        · rw [if_neg g, if_neg g, ih m _ (by omega) (by omega)]
      · rw [if_neg h, if_neg h]
def path (l : List S40) (f : Int) : List Int := pathN l (l.length + 1) f
theorem path_out (l : List S40) (f : Int) (h : ¬ (0 ≤ f ∧ f < (l.length : Int))) : path l f = [] := by
  unfold path; simp only [pathN]; rw [if_neg h]
theorem path_in (l : List S40) (f : Int) (h : 0 ≤ f ∧ f < (l.length : Int)) : path l f = f :: (if (rd_T40 l f).f1 ≥ f then [] else path l (rd_T40 l f).f1) := by
  unfold path
  conv => lhs; simp only [pathN]
  rw [if_pos h]
  by_cases g : (rd_T40 l f).f1 ≥ f
  · rw [if_pos g, if_pos g]
  · rw [if_neg g, if_neg g, pathN_fuel l l.length (l.length + 1) _ (by omega) (by omega)]
theorem pathN_len (l : List S40) : ∀ (n : Nat) (f : Int), (pathN l n f).length ≤ n := by
  intro n
  induction n with
  | zero => intro f; simp [pathN]
  | succ n ih =>
    intro f
    simp only [pathN]
    split
    · split
      · simp
      · have := ih (rd_T40 l f).f1; simp; omega
    · simp
theorem path_len (l : List S40) (f : Int) : (path l f).length ≤ l.length + 1 := pathN_len l _ f
theorem tpath_l0 (l : List S40) : ∀ (n k : Nat) (f : Int) (acc : List Int), f < n → 2 * n + 2 ≤ k → acc.length + n < 17592186044416 → tree_Path.l0 k l f acc = some (acc ++ pathN l n f) := by
  intro n
  induction n with
  | zero =>
    intro k f acc h1 h2 h3
    obtain ⟨k, rfl⟩ : ∃ m, k = m + 2 := ⟨k - 2, by omega⟩
    simp only [tree_Path.l0]
    rw [if_neg (by omega)]
    simp [tree_Path.j1, slices_Clip_int.f, pathN]
  | succ n ih =>
    intro k f acc h1 h2 h3
    obtain ⟨k, rfl⟩ : ∃ m, k = m + 2 := ⟨k - 2, by omega⟩
    simp only [tree_Path.l0, pathN]
    by_cases h0 : f ≥ 0
    · rw [if_pos h0]
      simp only [tree_Path.j1]
      by_cases hl : f < (l.length : Int)
      · rw [if_pos (decide_eq_true hl), if_pos (by omega), if_pos ⟨h0, hl⟩]
        simp only [Option.bind_some]
        rw [if_pos h0, if_pos hl]
        by_cases g : (rd_T40 l f).f1 ≥ f
        · rw [if_pos g, if_pos g]; simp [slices_Clip_int.f]
        · rw [if_neg g, if_neg g, ih k _ _ (by omega) (by omega) (by simp; omega)]
          simp
      · rw [if_neg (by simpa using hl), if_neg (fun h => hl h.2)]
        simp [slices_Clip_int.f]
    · rw [if_neg h0, if_neg (fun h => h0 h.1)]
      simp [tree_Path.j1, slices_Clip_int.f]
theorem tpath_eq (l : List S40) (hl : l.length ≤ 20) (f : Int) (k : Nat) (hk : 50 ≤ k) : tree_Path.f k l f = some (path l f) := by
  unfold tree_Path.f
  by_cases h : f < (l.length : Int)
  · rw [tpath_l0 l (l.length + 1) k f [] (by omega) (by omega) (by simp; omega)]; simp [path]
  · obtain ⟨k, rfl⟩ : ∃ m, k = m + 2 := ⟨k - 2, by omega⟩
    rw [path_out l f (by omega)]
    simp only [tree_Path.l0]
    rw [if_pos (by omega)]
    simp only [tree_Path.j1]
    rw [if_neg (by simpa using h)]
    simp [slices_Clip_int.f]
theorem ints_l0 (a b : List Int) (hl : a.length = b.length) (hb : a.length < 9223372036854775807) : ∀ (d k i : Nat), a.length - i = d → i ≤ a.length → d < k → prebendref01_Ints.l0 k a b (i : Int) = some (decide (a.drop i = b.drop i)) := by
  intro d
  induction d with
  | zero =>
    intro k i hd hi hk
    obtain ⟨k, rfl⟩ : ∃ m, k = m + 1 := ⟨k - 1, by omega⟩
    simp only [prebendref01_Ints.l0]
    rw [if_neg (by omega), List.drop_of_length_le (by omega), List.drop_of_length_le (by omega)]; simp
  | succ d ih =>
    intro k i hd hi hk
    obtain ⟨k, rfl⟩ : ∃ m, k = m + 1 := ⟨k - 1, by omega⟩
    simp only [prebendref01_Ints.l0]
    rw [if_pos (by omega), if_pos (by omega), if_pos (by omega), rd_drop a i (by omega), rd_drop b i (by omega)]
    by_cases h : rd a i = rd b i
    · rw [if_pos h, wrap_id _ (by omega) (by omega)]
      have := ih k (i + 1) (by omega) (by omega) (by omega)
      rw [show ((i : Int) + 1) = ((i + 1 : Nat) : Int) by omega, this, h]
      simp
    · rw [if_neg h]; simp [h]
theorem ints_eq (a b : List Int) (k : Nat) (ha : a.length < 9223372036854775807) (hk : a.length < k) : prebendref01_Ints.f k a b = some (decide (a = b)) := by
  unfold prebendref01_Ints.f
  by_cases h : (a.length : Int) = (b.length : Int)
  · rw [if_pos h]
    have := ints_l0 a b (by omega) ha a.length k 0 (by omega) (by omega) hk
    simpa using this
  · rw [if_neg h]; congr 1; symm; apply decide_eq_false; intro e; exact h (by rw [e])

/-- Whether a fund's name is had by one ahead of it. -/
def dup (l : List S40) (i : Nat) : Bool := (l.take i).any fun z => z.f0.toList == (rd_T40 l (i : Int)).f0.toList
def row (l : List S40) (i : Nat) : Bool := tree_Good.bad (i : Int) (dup l i) (rd_T40 l (i : Int))
def goodN (l : List S40) : Nat → Nat → Bool
  | 0, _ => true
  | d + 1, i => !(row l i) && goodN l d (i + 1)
theorem rd40_drop (l : List S40) (i : Nat) (h : i < l.length) : l.drop i = rd_T40 l (i : Int) :: l.drop (i + 1) := by
  rw [List.drop_eq_getElem_cons h]; simp [rd_T40, h]
theorem idx_l0 (l : List S40) (hl : l.length < 9223372036854775807) (y : ByteArray) : ∀ (d k i : Nat), l.length - i = d → i ≤ l.length → d < k → ∃ r, slices_IndexFunc.l0 k l y (i : Int) = some r ∧ decide (r ≥ 0) = (l.drop i).any fun z => z.f0.toList == y.toList := by
  intro d
  induction d with
  | zero =>
    intro k i hd hi hk
    obtain ⟨k, rfl⟩ : ∃ m, k = m + 1 := ⟨k - 1, by omega⟩
    refine ⟨-1, ?_, ?_⟩
    · simp only [slices_IndexFunc.l0]; rw [if_neg (by omega)]
    · rw [List.drop_of_length_le (by omega)]; rfl
  | succ d ih =>
    intro k i hd hi hk
    obtain ⟨k, rfl⟩ : ∃ m, k = m + 1 := ⟨k - 1, by omega⟩
    simp only [slices_IndexFunc.l0]
    rw [if_pos (by omega), if_pos (by omega), rd40_drop l i (by omega)]
    by_cases h : (rd_T40 l (i : Int)).f0.toList = y.toList
    · rw [if_pos h]; exact ⟨i, rfl, by simp [h]⟩
    · rw [if_neg h, wrap_id _ (by omega) (by omega)]
      obtain ⟨r, h1, h2⟩ := ih k (i + 1) (by omega) (by omega) (by omega)
      refine ⟨r, ?_, ?_⟩
      · rw [show ((i : Int) + 1) = ((i + 1 : Nat) : Int) by omega]; exact h1
      · rw [h2, List.any_cons, beq_eq_false_iff_ne.mpr h]; rfl
theorem contains_eq (l : List S40) (hl : l.length < 9223372036854775807) (y : ByteArray) (k : Nat) (hk : l.length < k) : slices_ContainsFunc.f k l y = some (l.any fun z => z.f0.toList == y.toList) := by
  obtain ⟨r, h1, h2⟩ := idx_l0 l hl y l.length k 0 (by omega) (by omega) hk
  unfold slices_ContainsFunc.f
  rw [show (0 : Int) = ((0 : Nat) : Int) by rfl, h1]
  simp only [Option.bind_some]
  rw [show (((0 : Nat) : Int)) = (0 : Int) by rfl, h2]; simp
theorem tgood_l0 (l : List S40) (hl : l.length ≤ 100) : ∀ (d k i : Nat), l.length - i = d → i ≤ l.length → l.length + d < k → tree_Good.l0 k l (i : Int) = some (goodN l d i) := by
  intro d
  induction d with
  | zero =>
    intro k i hd hi hk
    obtain ⟨k, rfl⟩ : ∃ m, k = m + 1 := ⟨k - 1, by omega⟩
    simp only [tree_Good.l0, goodN]; rw [if_neg (by omega)]
  | succ d ih =>
    intro k i hd hi hk
    obtain ⟨k, rfl⟩ : ∃ m, k = m + 1 := ⟨k - 1, by omega⟩
    simp only [tree_Good.l0, goodN]
    rw [if_pos (by omega), if_pos (by omega), contains_eq _ (by rw [List.length_take]; omega) _ k (by rw [List.length_take]; omega)]
    simp only [Option.bind_some]
    rw [show (i : Int).toNat = i by omega, wrap_id _ (by omega) (by omega)]
    have e := ih k (i + 1) (by omega) (by omega) (by omega)
    rw [show ((i : Int) + 1) = ((i + 1 : Nat) : Int) by omega, e]
    show (if row l i = true then _ else _) = _
    cases row l i <;> rfl
theorem tgood_eq (l : List S40) (hl : l.length ≤ 20) (k : Nat) (hk : 50 ≤ k) : tree_Good.f k l = some (decide (l.length ≤ 8) && goodN l l.length 0) := by
  unfold tree_Good.f
  by_cases h : (l.length : Int) > 8
  · rw [if_pos h, decide_eq_false (by omega)]; rfl
  · have := tgood_l0 l (by omega) l.length k 0 (by omega) (by omega) (by omega)
    rw [if_neg h, decide_eq_true (by omega)]
    simpa using this

theorem rgood_l1 (l : List S40) (i : Nat) (hi : i < l.length) (hl : l.length ≤ 100) (a : ByteArray) (b c : Int) (m : Nat) : ∀ (e x : Nat), i - x = e → x ≤ i →
    prebendref08_Good.l1 (m + e + 1) l (i : Int) (x : Int) a b c = if (((l.take i).drop x).any fun z => z.f0.toList == a.toList) = true then some false else prebendref08_Good.l0 m l (wrap64 ((i : Int) + 1)) := by
  intro e
  induction e with
  | zero =>
    intro x he hx
    simp only [prebendref08_Good.l1]
    rw [if_neg (by omega), List.drop_of_length_le (by rw [List.length_take]; omega)]
    rfl
  | succ e ih =>
    intro x he hx
    have ih2 := ih (x + 1) (by omega) (by omega)
    rw [show m + (e + 1) + 1 = (m + e + 1) + 1 by omega]
    generalize m + e + 1 = K at ih2
    simp only [prebendref08_Good.l1]
    rw [if_pos (by omega), if_pos (by omega), if_pos (by omega)]
    have hd : (l.take i).drop x = rd_T40 l (x : Int) :: (l.take i).drop (x + 1) := by
      rw [List.drop_eq_getElem_cons (by rw [List.length_take]; omega)]
      have hx : x < l.length := by omega
      simp [rd_T40, hx]
    rw [hd]
    by_cases h : (rd_T40 l (x : Int)).f0.toList = a.toList
    · rw [if_pos h, if_pos (by simp [h])]
    · rw [if_neg h, wrap_id _ (by omega) (by omega), show ((x : Int) + 1) = ((x + 1 : Nat) : Int) by omega, ih2, List.any_cons, beq_eq_false_iff_ne.mpr h, Bool.false_or]
theorem rgood_l0 (l : List S40) (hl : l.length ≤ 100) : ∀ (d k i : Nat), l.length - i = d → i ≤ l.length → 110 * d + 1 ≤ k → prebendref08_Good.l0 k l (i : Int) = some (goodN l d i && decide (l.length ≤ 8)) := by
  intro d
  induction d with
  | zero =>
    intro k i hd hi hk
    obtain ⟨k, rfl⟩ : ∃ m, k = m + 1 := ⟨k - 1, by omega⟩
    simp only [prebendref08_Good.l0, goodN]; rw [if_neg (by omega)]
    simp only [Bool.true_and]; congr 1; apply decide_eq_decide.mpr; omega
  | succ d ih =>
    intro k i hd hi hk
    obtain ⟨m, rfl⟩ : ∃ m, k = (m + i + 1) + 2 := ⟨k - i - 3, by omega⟩
    have e := ih m (i + 1) (by omega) (by omega) (by omega)
    have e1 := rgood_l1 l i (by omega) hl (rd_T40 l (i : Int)).f0 (rd_T40 l (i : Int)).f1 (rd_T40 l (i : Int)).f2 m i 0 (by omega) (by omega)
    rw [wrap_id _ (by omega) (by omega), show ((i : Int) + 1) = ((i + 1 : Nat) : Int) by omega, e, List.drop_zero] at e1
    simp only [prebendref08_Good.l0, prebendref08_Good.j1]
    rw [if_pos (by omega), if_pos (by omega), show (0 : Int) = ((0 : Nat) : Int) by rfl, e1, wrap_id ((i : Int) - 1) (by omega) (by omega)]
    simp only [goodN]
    unfold row tree_Good.bad
    rw [name_empty]
    show _ = some (!(dup l i || _ || _ || _ || _ || _ || _) && _ && _)
    unfold dup
    generalize ((List.take i l).any fun z => z.f0.toList == (rd_T40 l (i : Int)).f0.toList) = t
    generalize rd_T40 l (i : Int) = x
    by_cases h1 : (x.f0.size : Int) < 1
    · simp [h1]
    · by_cases h2 : (x.f0.size : Int) > 16
      · have h2' : 16 < (x.f0.size : Int) := h2
        simp [h1, h2']
      · have h2' : ¬ (16 < (x.f0.size : Int)) := h2
        by_cases h3 : x.f1 < -1
        · simp [h1, h2', h3]
        · by_cases h4 : x.f1 > (i : Int) - 1
          · have h4' : (i : Int) ≤ x.f1 := by omega
            simp [h1, h2', h3, h4, h4']
          · have h4' : ¬ ((i : Int) ≤ x.f1) := by omega
            by_cases h5 : x.f2 < 0
            · simp [h1, h2', h3, h4, h4', h5]
            · by_cases h6 : 1152921504606846976 < x.f2
              · simp [h1, h2', h3, h4, h4', h5, h6]
              · cases t <;> simp [h1, h2', h3, h4, h4', h5, h6]
theorem rgood_eq (l : List S40) (hl : l.length ≤ 20) (k : Nat) (hk : 3000 ≤ k) : prebendref08_Good.f k l = some (decide (l.length ≤ 8) && goodN l l.length 0) := by
  have := rgood_l0 l (by omega) l.length k 0 (by omega) (by omega) (by omega)
  unfold prebendref08_Good.f
  rw [show (0 : Int) = ((0 : Nat) : Int) by rfl, this, Bool.and_comm]

theorem rpath_f (l : List S40) : ∀ (n k : Nat) (f : Int), n ≤ 100 → f < n → 2 * n + 2 ≤ k → prebendref08_Path.f k l f = some (pathN l n f) := by
  intro n
  induction n with
  | zero =>
    intro k f hn h1 h2
    obtain ⟨k, rfl⟩ : ∃ m, k = m + 2 := ⟨k - 2, by omega⟩
    simp only [prebendref08_Path.f]
    rw [if_pos (by omega)]
    simp [prebendref08_Path.j0, pathN]
  | succ n ih =>
    intro k f hn h1 h2
    obtain ⟨k, rfl⟩ : ∃ m, k = m + 2 := ⟨k - 2, by omega⟩
    simp only [prebendref08_Path.f, pathN]
    by_cases h0 : f < 0
    · rw [if_pos h0, if_neg (by omega)]; simp [prebendref08_Path.j0]
    · rw [if_neg h0]
      simp only [prebendref08_Path.j0]
      by_cases hl : f < (l.length : Int)
      · rw [if_neg (by simpa using hl), if_pos (by omega), if_pos hl, if_pos (show 0 ≤ f ∧ f < (l.length : Int) from ⟨by omega, hl⟩)]
        by_cases g : (rd_T40 l f).f1 ≥ f
        · rw [if_pos g, if_pos g]
        · rw [if_neg g, if_neg g, ih k _ (by omega) (by omega) (by omega)]
          simp only [Option.bind_some]
          have := pathN_len l n (rd_T40 l f).f1
          rw [if_pos (by simp; omega)]
          simp
      · rw [if_pos (by simpa using hl), if_neg (fun h => hl h.2)]
theorem rpath_eq (l : List S40) (hl : l.length ≤ 20) (f : Int) (k : Nat) (hk : 50 ≤ k) : prebendref08_Path.f k l f = some (path l f) := by
  by_cases h : f < (l.length : Int)
  · exact rpath_f l (l.length + 1) k f (by omega) (by omega) (by omega)
  · obtain ⟨k, rfl⟩ : ∃ m, k = m + 2 := ⟨k - 2, by omega⟩
    rw [path_out l f (by omega)]
    simp only [prebendref08_Path.f]
    rw [if_neg (by omega)]
    simp only [prebendref08_Path.j0]
    rw [if_pos (by simpa using h)]

theorem awake_3000 : prebendlaw08_awake.f 3000 = some true := by decide +kernel
theorem TreePaths : prebendlaw08_TreePaths.Pure := by
  intro l a _ _
  refine ⟨3000, ?_⟩
  have hl : (l.take 20).length ≤ 20 := by rw [List.length_take]; omega
  have hp := path_len (l.take 20) a
  unfold prebendlaw08_TreePaths.f
  rw [few_eq]
  simp only [Option.bind_some]
  rw [tgood_eq _ hl 3000 (by omega), rgood_eq _ hl 3000 (by omega), tpath_eq _ hl a 3000 (by omega), rpath_eq _ hl a 3000 (by omega), awake_3000]
  simp only [Option.bind_some, beq_self_eq_true, if_true]
  rw [ints_eq _ _ _ (by omega) (by omega)]
  simp

end Go.Proofs.Ytfdlncakhnlgoaa.Pure
