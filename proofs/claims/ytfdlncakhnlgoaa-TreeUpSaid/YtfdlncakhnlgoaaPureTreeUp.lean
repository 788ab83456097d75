/- In funds that may be each path ends at one that has none above it, goes down in places, and each fund on it has the rest as its own: for all funds and numbers that a call may be handed; no conditions. -/
import Derived.Test.YtfdlncakhnlgoaaPAllx25
import Derived.Laws.BitsLemmas
set_option linter.unusedVariables false
set_option linter.unusedSimpArgs false
namespace Go.Proofs.Ytfdlncakhnlgoaa.Pure
open Go Go.RowKit Go.Proofs.Ytfdlncakhnlgoaa.PAll Go.Proofs.YtfdlncakhnlgoaaW.PrintWords Go.Proofs.YtfdlncakhnlgoaaW.PrintLast

def fitB (n : Int) : Bool := decide (-1152921504606846976 ≤ n) && decide (n ≤ 1152921504606846976)
theorem fitB_iff (n : Int) : fitB n = true ↔ -1152921504606846976 ≤ n ∧ n ≤ 1152921504606846976 := by simp [fitB]
theorem rd_drop (l : List Int) (i : Nat) (h : i < l.length) : l.drop i = rd l (i : Int) :: l.drop (i + 1) := by
  rw [List.drop_eq_getElem_cons h]; simp [rd, h]
theorem wrap_id (n : Int) (h : -9223372036854775808 ≤ n) (h2 : n < 9223372036854775808) : wrap64 n = n := by unfold wrap64; omega

theorem name_empty (x : ByteArray) : (x.toList == []) = decide ((x.size : Int) < 1) := by
  rw [Go.ByteArray.toList_eq]
  have hlen : x.data.toList.length = x.size := by cases x; rfl
  by_cases h : x.data.toList = []
  · have : x.size = 0 := by rw [← hlen, h]; rfl
    simp [h, this]
  · have : x.size ≠ 0 := by rw [← hlen]; intro q; exact h (List.length_eq_zero_iff.mp q)
    rw [beq_eq_false_iff_ne.mpr h]
    symm; apply decide_eq_false; omega
theorem few_eq (l : List S40) (m : List S43) : prebendlaw08_few.f l m = some (l.take 20, m.take 20) := by
  unfold prebendlaw08_few.f
  by_cases h : (l.length : Int) > 20
  · by_cases h2 : (m.length : Int) > 20
    · rw [if_pos h, if_pos (by omega)]; simp only [Option.bind_some]; rw [if_pos h2, if_pos (by omega)]
    · rw [if_pos h, if_pos (by omega)]; simp only [Option.bind_some]; rw [if_neg h2, List.take_of_length_le (l := m) (by omega)]
  · by_cases h2 : (m.length : Int) > 20
    · rw [if_neg h, if_pos h2, if_pos (by omega), List.take_of_length_le (l := l) (by omega)]
    · rw [if_neg h, if_neg h2, List.take_of_length_le (l := m) (by omega), List.take_of_length_le (l := l) (by omega)]
/-- The way up of a fund. -/
def pathN (l : List S40) : Nat → Int → List Int
  | 0, _ => []
  | n + 1, f => if 0 ≤ f ∧ f < (l.length : Int) then f :: (if (rd_T40 l f).f1 ≥ f then [] else pathN l n (rd_T40 l f).f1) else []
theorem pathN_neg (l : List S40) (n : Nat) (f : Int) (h : f < 0) : pathN l n f = [] := by
  cases n with
  | zero => rfl
  | succ n => simp only [pathN]; rw [if_neg (by omega)]
theorem pathN_fuel (l : List S40) : ∀ (n m : Nat) (f : Int), f < n → f < m → pathN l n f = pathN l m f := by
  intro n
  induction n with
  | zero => intro m f h1 h2; rw [pathN_neg l m f (by omega)]; rfl
  | succ n ih =>
    intro m f h1 h2
    cases m with
    | zero => rw [pathN_neg l _ f (by omega)]; rfl
    | succ m =>
      simp only [pathN]
      by_cases h : 0 ≤ f ∧ f < (l.length : Int)
      · rw [if_pos h, if_pos h]
        by_cases g : (rd_T40 l f).f1 ≥ f
        · rw [if_pos g, if_pos g]
        · rw [if_neg g, if_neg g, ih m _ (by omega) (by omega)]
      · rw [if_neg h, if_neg h]
def path (l : List S40) (f : Int) : List Int := pathN l (l.length + 1) f
theorem path_out (l : List S40) (f : Int) (h : ¬ (0 ≤ f ∧ f < (l.length : Int))) : path l f = [] := by
  unfold path; simp only [pathN]; rw [if_neg h]
theorem path_in (l : List S40) (f : Int) (h : 0 ≤ f ∧ f < (l.length : Int)) : path l f = f :: (if (rd_T40 l f).f1 ≥ f then [] else path l (rd_T40 l f).f1) := by
  unfold path
  conv => lhs; simp only [pathN]
  rw [if_pos h]
  by_cases g : (rd_T40 l f).f1 ≥ f
  · rw [if_pos g, if_pos g]
  · rw [if_neg g, if_neg g, pathN_fuel l l.length (l.length + 1) _ (by omega) (by omega)]
theorem pathN_len (l : List S40) : ∀ (n : Nat) (f : Int), (pathN l n f).length ≤ n := by
  intro n
  induction n with
  | zero => intro f; simp [pathN]
  | succ n ih =>
    intro f
    simp only [pathN]
    split
    · split
      · simp
      · have := ih (rd_T40 l f).f1; simp; omega
    · simp
theorem path_len (l : List S40) (f : Int) : (path l f).length ≤ l.length + 1 := pathN_len l _ f
theorem tpath_l0 (l : List S40) : ∀ (n k : Nat) (f : Int) (acc : List Int), f < n → 2 * n + 2 ≤ k → acc.length + n < 17592186044416 → tree_Path.l0 k l f acc = some (acc ++ pathN l n f) := by
  intro n
  induction n with
  | zero =>
    intro k f acc h1 h2 h3
    obtain ⟨k, rfl⟩ : ∃ m, k = m + 2 := ⟨k - 2, by omega⟩
    simp only [tree_Path.l0]
    rw [if_neg (by omega)]
    simp [tree_Path.j1, slices_Clip_int.f, pathN]
  | succ n ih =>
    intro k f acc h1 h2 h3
    obtain ⟨k, rfl⟩ : ∃ m, k = m + 2 := ⟨k - 2, by omega⟩
    simp only [tree_Path.l0, pathN]
    by_cases h0 : f ≥ 0
    · rw [if_pos h0]
      simp only [tree_Path.j1]
      by_cases hl : f < (l.length : Int)
      · rw [if_pos (decide_eq_true hl), if_pos (by omega), if_pos ⟨h0, hl⟩]
        simp only [Option.bind_some]
        rw [if_pos h0, if_pos hl]
        by_cases g : (rd_T40 l f).f1 ≥ f
        · rw [if_pos g, if_pos g]; simp [slices_Clip_int.f]
        · rw [if_neg g, if_neg g, ih k _ _ (by omega) (by omega) (by simp; omega)]
          simp
      · rw [if_neg (by simpa using hl), if_neg (fun h => hl h.2)]
        simp [slices_Clip_int.f]
    · rw [if_neg h0, if_neg (fun h => h0 h.1)]
      simp [tree_Path.j1, slices_Clip_int.f]
theorem tpath_eq (l : List S40) (hl : l.length ≤ 20) (f : Int) (k : Nat) (hk : 50 ≤ k) : tree_Path.f k l f = some (path l f) := by
  unfold tree_Path.f
  by_cases h : f < (l.length : Int)
  · rw [tpath_l0 l (l.length + 1) k f [] (by omega) (by omega) (by simp; omega)]; simp [path]
  · obtain ⟨k, rfl⟩ : ∃ m, k = m + 2 := ⟨k - 2, by omega⟩
    rw [path_out l f (by omega)]
    simp only [tree_Path.l0]
    rw [if_pos (by omega)]
    simp only [tree_Path.j1]
    rw [if_neg (by simpa using h)]
    simp [slices_Clip_int.f]
theorem ints_l0 (a b : List Int) (hl : a.length = b.length) (hb : a.length < 9223372036854775807) : ∀ (d k i : Nat), a.length - i = d → i ≤ a.length → d < k → prebendref01_Ints.l0 k a b (i : Int) = some (decide (a.drop i = b.drop i)) := by
  intro d
  induction d with
  | zero =>
    intro k i hd hi hk
    obtain ⟨k, rfl⟩ : ∃ m, k = m + 1 := ⟨k - 1, by omega⟩
    simp only [prebendref01_Ints.l0]
    rw [if_neg (by omega), List.drop_of_length_le (by omega), List.drop_of_length_le (by omega)]; simp
  | succ d ih =>
    intro k i hd hi hk
    obtain ⟨k, rfl⟩ : ∃ m, k = m + 1 := ⟨k - 1, by omega⟩
    simp only [prebendref01_Ints.l0]
    rw [if_pos (by omega), if_pos (by omega), if_pos (by omega), rd_drop a i (by omega), rd_drop b i (by omega)]
    by_cases h : rd a i = rd b i
    · rw [if_pos h, wrap_id _ (by omega) (by omega)]
      have := ih k (i + 1) (by omega) (by omega) (by omega)
      rw [show ((i : Int) + 1) = ((i + 1 : Nat) : Int) by omega, this, h]
      simp
    · rw [if_neg h]; simp [h]
theorem ints_eq (a b : List Int) (k : Nat) (ha : a.length < 9223372036854775807) (hk : a.length < k) : prebendref01_Ints.f k a b = some (decide (a = b)) := by
  unfold prebendref01_Ints.f
  by_cases h : (a.length : Int) = (b.length : Int)
  · rw [if_pos h]
    have := ints_l0 a b (by omega) ha a.length k 0 (by omega) (by omega) hk
    simpa using this
  · rw [if_neg h]; congr 1; symm; apply decide_eq_false; intro e; exact h (by rw [e])

/-- Whether a fund's name is had by one ahead of it. -/
def dup (l : List S40) (i : Nat) : Bool := (l.take i).any fun z => z.f0.toList == (rd_T40 l (i : Int)).f0.toList
def row (l : List S40) (i : Nat) : Bool := tree_Good.bad (i : Int) (dup l i) (rd_T40 l (i : Int))
def goodN (l : List S40) : Nat → Nat → Bool
  | 0, _ => true
  | d + 1, i => !(row l i) && goodN l d (i + 1)
theorem rd40_drop (l : List S40) (i : Nat) (h : i < l.length) : l.drop i = rd_T40 l (i : Int) :: l.drop (i + 1) := by
  rw [List.drop_eq_getElem_cons h]; simp [rd_T40, h]
theorem idx_l0 (l : List S40) (hl : l.length < 9223372036854775807) (y : ByteArray) : ∀ (d k i : Nat), l.length - i = d → i ≤ l.length → d < k → ∃ r, slices_IndexFunc.l0 k l y (i : Int) = some r ∧ decide (r ≥ 0) = (l.drop i).any fun z => z.f0.toList == y.toList := by
  intro d
  induction d with
  | zero =>
    intro k i hd hi hk
    obtain ⟨k, rfl⟩ : ∃ m, k = m + 1 := ⟨k - 1, by omega⟩
    refine ⟨-1, ?_, ?_⟩
    · simp only [slices_IndexFunc.l0]; rw [if_neg (by omega)]
    · rw [List.drop_of_length_le (by omega)]; rfl
  | succ d ih =>
    intro k i hd hi hk
    obtain ⟨k, rfl⟩ : ∃ m, k = m + 1 := ⟨k - 1, by omega⟩
    simp only [slices_IndexFunc.l0]
    rw [if_pos (by omega), if_pos (by omega), rd40_drop l i (by omega)]
    by_cases h : (rd_T40 l (i : Int)).f0.toList = y.toList
    · rw [if_pos h]; exact ⟨i, rfl, by simp [h]⟩
    · rw [if_neg h, wrap_id _ (by omega) (by omega)]
      obtain ⟨r, h1, h2⟩ := ih k (i + 1) (by omega) (by omega) (by omega)
      refine ⟨r, ?_, ?_⟩
      · rw [show ((i : Int) + 1) = ((i + 1 : Nat) : Int) by omega]; exact h1
      · rw [h2, List.any_cons, beq_eq_false_iff_ne.mpr h]; rfl
theorem contains_eq (l : List S40) (hl : l.length < 9223372036854775807) (y : ByteArray) (k : Nat) (hk : l.length < k) : slices_ContainsFunc.f k l y = some (l.any fun z => z.f0.toList == y.toList) := by
  obtain ⟨r, h1, h2⟩ := idx_l0 l hl y l.length k 0 (by omega) (by omega) hk
  unfold slices_ContainsFunc.f
  rw [show (0 : Int) = ((0 : Nat) : Int) by rfl, h1]
  simp only [Option.bind_some]
  rw [show (((0 : Nat) : Int)) = (0 : Int) by rfl, h2]; simp
theorem tgood_l0 (l : List S40) (hl : l.length ≤ 100) : ∀ (d k i : Nat), l.length - i = d → i ≤ l.length → l.length + d < k → tree_Good.l0 k l (i : Int) = some (goodN l d i) := by
  intro d
  induction d with
  | zero =>
    intro k i hd hi hk
    obtain ⟨k, rfl⟩ : ∃ m, k = m + 1 := ⟨k - 1, by omega⟩
    simp only [tree_Good.l0, goodN]; rw [if_neg (by omega)]
  | succ d ih =>
    intro k i hd hi hk
    obtain ⟨k, rfl⟩ : ∃ m, k = m + 1 := ⟨k - 1, by omega⟩
    simp only [tree_Good.l0, goodN]
    rw [if_pos (by omega), if_pos (by omega), contains_eq _ (by rw [List.length_take]; omega) _ k (by rw [List.length_take]; omega)]
    simp only [Option.bind_some]
    rw [show (i : Int).toNat = i by omega, wrap_id _ (by omega) (by omega)]
    have e := ih k (i + 1) (by omega) (by omega) (by omega)
    rw [show ((i : Int) + 1) = ((i + 1 : Nat) : Int) by omega, e]
    show (if row l i = true then _ else _) = _
    cases row l i <;> rfl
theorem tgood_eq (l : List S40) (hl : l.length ≤ 20) (k : Nat) (hk : 50 ≤ k) : tree_Good.f k l = some (decide (l.length ≤ 8) && goodN l l.length 0) := by
  unfold tree_Good.f
  by_cases h : (l.length : Int) > 8
  · rw [if_pos h, decide_eq_false (by omega)]; rfl
  · have := tgood_l0 l (by omega) l.length k 0 (by omega) (by omega) (by omega)
    rw [if_neg h, decide_eq_true (by omega)]
    simpa using this

theorem goodN_all (l : List S40) : ∀ (d i : Nat), goodN l d i = true → ∀ j, i ≤ j → j < i + d → row l j = false := by
  intro d
  induction d with
  | zero => intro i _ j h1 h2; omega
  | succ d ih =>
    intro i h j h1 h2
    simp only [goodN, Bool.and_eq_true, Bool.not_eq_true'] at h
    by_cases e : j = i
    · subst e; exact h.1
    · exact ih (i + 1) h.2 j (by omega) (by omega)
theorem good_row (l : List S40) (h : goodN l l.length 0 = true) (q : Int) (h0 : 0 ≤ q) (h1 : q < (l.length : Int)) : -1 ≤ (rd_T40 l q).f1 ∧ (rd_T40 l q).f1 < q := by
  have := goodN_all l l.length 0 h q.toNat (by omega) (by omega)
  unfold row tree_Good.bad at this
  rw [show ((q.toNat : Nat) : Int) = q by omega] at this
  simp only [Bool.or_eq_false_iff, decide_eq_false_iff_not] at this
  omega
theorem rd_cons (a : Int) (l : List Int) (i : Nat) : rd (a :: l) ((i + 1 : Nat) : Int) = rd l (i : Int) := by simp [rd]
theorem path_drop (l : List S40) : ∀ (i : Nat) (f : Int), i < (path l f).length → path l (rd (path l f) (i : Int)) = (path l f).drop i := by
  intro i
  induction i with
  | zero =>
    intro f h
    by_cases c : 0 ≤ f ∧ f < (l.length : Int)
    · have e := path_in l f c
      have : rd (path l f) ((0 : Nat) : Int) = f := by rw [e]; rfl
      rw [this, List.drop_zero]
    · rw [path_out l f c] at h; simp at h
  | succ i ih =>
    intro f h
    by_cases c : 0 ≤ f ∧ f < (l.length : Int)
    · have e := path_in l f c
      by_cases g : (rd_T40 l f).f1 ≥ f
      · rw [if_pos g] at e; rw [e] at h; simp at h
      · rw [if_neg g] at e
        rw [e] at h ⊢
        rw [rd_cons, List.drop_succ_cons]
        exact ih _ (by simpa using h)
    · rw [path_out l f c] at h; simp at h
theorem path_rng (l : List S40) (f : Int) (i : Nat) (h : i < (path l f).length) : 0 ≤ rd (path l f) (i : Int) ∧ rd (path l f) (i : Int) < (l.length : Int) := by
  have e := path_drop l i f h
  by_cases c : 0 ≤ rd (path l f) (i : Int) ∧ rd (path l f) (i : Int) < (l.length : Int)
  · exact c
  · rw [path_out l _ c] at e
    have : ((path l f).drop i).length = 0 := by rw [← e]; rfl
    rw [List.length_drop] at this; omega
theorem path_next (l : List S40) (f : Int) (i : Nat) (h : i + 1 < (path l f).length) : (rd_T40 l (rd (path l f) (i : Int))).f1 = rd (path l f) ((i + 1 : Nat) : Int) ∧ rd (path l f) ((i + 1 : Nat) : Int) < rd (path l f) (i : Int) := by
  have e := path_drop l i f (by omega)
  rw [path_in l _ (path_rng l f i (by omega)), rd_drop (path l f) i (by omega)] at e
  have e2 := (List.cons.inj e).2
  have r1 := rd_drop (path l f) (i + 1) h
  by_cases g : (rd_T40 l (rd (path l f) (i : Int))).f1 ≥ rd (path l f) (i : Int)
  · rw [if_pos g, r1] at e2; simp at e2
  · rw [if_neg g, r1] at e2
    by_cases c : 0 ≤ (rd_T40 l (rd (path l f) (i : Int))).f1 ∧ (rd_T40 l (rd (path l f) (i : Int))).f1 < (l.length : Int)
    · rw [path_in l _ c] at e2
      have e3 := (List.cons.inj e2).1
      exact ⟨e3, by omega⟩
    · rw [path_out l _ c] at e2; simp at e2
theorem path_last (l : List S40) (f : Int) (i : Nat) (h : i + 1 = (path l f).length) : (rd_T40 l (rd (path l f) (i : Int))).f1 ≥ rd (path l f) (i : Int) ∨ (rd_T40 l (rd (path l f) (i : Int))).f1 < 0 := by
  have e := path_drop l i f (by omega)
  have hr := path_rng l f i (by omega)
  rw [path_in l _ hr, rd_drop (path l f) i (by omega), List.drop_of_length_le (by omega)] at e
  have e2 := (List.cons.inj e).2
  by_cases g : (rd_T40 l (rd (path l f) (i : Int))).f1 ≥ rd (path l f) (i : Int)
  · exact Or.inl g
  · rw [if_neg g] at e2
    right
    by_cases c : 0 ≤ (rd_T40 l (rd (path l f) (i : Int))).f1
    · rw [path_in l _ ⟨c, by omega⟩] at e2; simp at e2
    · omega

theorem awake_up : ∀ j, prebendlaw08_awake.f (200 + j) = some true := by
  intro j
  induction j with
  | zero => decide +kernel
  | succ j ih => exact prebendlaw08_awake.mono (200 + j) _ ih
theorem up_l0 (l : List S40) (hl : l.length ≤ 20) (hg : goodN l l.length 0 = true) (f : Int) (hf : 0 < (path l f).length) : ∀ (d k i : Nat), (path l f).length - i = d → 1 ≤ i → i ≤ (path l f).length → 250 + d ≤ k →
    prebendlaw08_TreeUp.l0 k l (path l f) (i : Int) = some true := by
  have hp := path_len l f
  intro d
  induction d with
  | zero =>
    intro k i hd h1 hi hk
    obtain ⟨k, rfl⟩ : ∃ m, k = (200 + m) + 1 := ⟨k - 201, by omega⟩
    simp only [prebendlaw08_TreeUp.l0]
    rw [if_neg (by omega), awake_up, wrap_id _ (by omega) (by omega)]
    simp only [Option.bind_some, if_true]
    obtain ⟨j, hj⟩ : ∃ j, (path l f).length = j + 1 := ⟨_, (Nat.succ_pred_eq_of_pos hf).symm⟩
    have r := path_rng l f j (by omega)
    have g := good_row l hg _ r.1 r.2
    have q := path_last l f j (by omega)
    rw [show (((path l f).length : Nat) : Int) - 1 = (j : Int) by omega]
    rw [if_pos (by omega), if_pos (by omega), if_pos r.1, if_pos r.2]
    congr 1; simp; omega
  | succ d ih =>
    intro k i hd h1 hi hk
    obtain ⟨k, rfl⟩ : ∃ m, k = m + 1 := ⟨k - 1, by omega⟩
    obtain ⟨j, rfl⟩ : ∃ j, i = j + 1 := ⟨i - 1, by omega⟩
    have n := path_next l f j (by omega)
    have r := path_rng l f j (by omega)
    have r2 := path_rng l f (j + 1) (by omega)
    have e := path_drop l (j + 1) f (by omega)
    have i1 := ih k (j + 2) (by omega) (by omega) (by omega) (by omega)
    simp only [prebendlaw08_TreeUp.l0]
    rw [if_pos (by omega), if_pos (by omega), wrap_id (((j + 1 : Nat) : Int) - 1) (by omega) (by omega), show ((j + 1 : Nat) : Int) - 1 = (j : Int) by omega]
    rw [if_pos (by omega), if_pos (by omega), if_neg (by omega), if_neg (by omega), if_pos r.1, if_pos r.2, if_pos n.1, tpath_eq l hl _ k (by omega)]
    simp only [Option.bind_some]
    rw [if_pos (by omega), e, show (((j + 1 : Nat) : Int)).toNat = j + 1 by omega, ints_eq _ _ k (by rw [List.length_drop]; omega) (by rw [List.length_drop]; omega), decide_eq_true rfl]
    simp only [Option.bind_some, if_true]
    rw [wrap_id _ (by omega) (by omega), show ((j + 1 : Nat) : Int) + 1 = ((j + 2 : Nat) : Int) by omega, i1]
theorem TreeUp : prebendlaw08_TreeUp.Pure := by
  intro l a _ _
  refine ⟨402, ?_⟩
  have hl : (l.take 20).length ≤ 20 := by rw [List.length_take]; omega
  generalize hx : l.take 20 = x at hl
  have hp := path_len x a
  unfold prebendlaw08_TreeUp.f
  rw [few_eq, hx]
  simp only [Option.bind_some]
  rw [tpath_eq x hl a 402 (by omega)]
  simp only [Option.bind_some]
  by_cases c : 0 ≤ a ∧ a < (x.length : Int)
  · rw [if_neg (by omega), decide_eq_false (by omega)]
    have e := path_in x a c
    have hlen : 0 < (path x a).length := by rw [e]; simp
    have h0 : rd (path x a) 0 = a := by rw [e]; rfl
    simp only [prebendlaw08_TreeUp.j0]
    rw [if_neg (by simp), if_neg (by omega), if_pos (by omega), h0]
    simp only [prebendlaw08_TreeUp.j1]
    rw [if_neg (by simp), tgood_eq x hl 400 (by omega)]
    simp only [Option.bind_some]
    by_cases g : (decide (x.length ≤ 8) && goodN x x.length 0) = true
    · rw [if_pos g]
      have g2 : goodN x x.length 0 = true := (Bool.and_eq_true _ _ ▸ g).2
      exact up_l0 x hl g2 a hlen _ 400 1 rfl (by omega) (by omega) (by omega)
    · rw [if_neg g, show 400 = 200 + 200 by rfl, awake_up]; rfl
  · rw [path_out x a c]
    have e : (if a < 0 then prebendlaw08_TreeUp.j0 402 a x [] true else prebendlaw08_TreeUp.j0 402 a x [] (decide (a ≥ (x.length : Int)))) = prebendlaw08_TreeUp.j0 402 a x [] true := by
      by_cases h : a < 0
      · rw [if_pos h]
      · rw [if_neg h, decide_eq_true (by omega)]
    rw [e]
    simp only [prebendlaw08_TreeUp.j0]
    rw [if_pos trivial, show 401 = 200 + 201 by rfl, awake_up]; rfl

end Go.Proofs.Ytfdlncakhnlgoaa.Pure
