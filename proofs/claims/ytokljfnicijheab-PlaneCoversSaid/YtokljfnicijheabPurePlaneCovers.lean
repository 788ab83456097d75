/- The boxes of some nodes are apart, and have just these nodes; two such meet just if they have a node in common, and a tick. -/
import Derived.Test.YtokljfnicijheabPAllx22
import Derived.Laws.BitsLemmas
set_option linter.unusedVariables false
set_option linter.unusedSimpArgs false
namespace Go.Proofs.Ytokljfnicijheab.Pure
open Go Go.RowKit Go.Proofs.Ytokljfnicijheab.PAll Go.Proofs.YtokljfnicijheabW.PrintWords Go.Proofs.YtokljfnicijheabW.PrintLast

/-- What a box must be. -/
def GoodP (t n l m : Int) : Prop := 0 ≤ t ∧ t ≤ 1099511627776 ∧ 1 ≤ l ∧ l ≤ 1048576 ∧ 0 ≤ n ∧ n ≤ 31 ∧ 1 ≤ m ∧ n + m ≤ 32
instance (t n l m : Int) : Decidable (GoodP t n l m) := by unfold GoodP; infer_instance
theorem within_eq (a b c : Int) : plane_within.f a b c = some (decide (b ≤ a ∧ a ≤ c)) := by
  unfold plane_within.f; by_cases h : a ≥ b
  · rw [if_pos h]; congr 1; exact decide_eq_decide.mpr ⟨fun x => ⟨h, x⟩, fun x => x.2⟩
  · rw [if_neg h]; congr 1; symm; exact decide_eq_false (fun x => h x.1)
theorem pick_ite (p : Prop) [Decidable p] (x y : Option Bool) : (if decide p = true then x else y) = if p then x else y := by by_cases h : p <;> simp [h]
theorem Good_eq (t n l m : Int) : plane_Good.f t n l m = some (decide (GoodP t n l m)) := by
  unfold plane_Good.f GoodP
  simp only [within_eq, Option.bind_some, pick_ite]
  by_cases h1 : 0 ≤ t ∧ t ≤ 1099511627776
  · rw [if_pos h1]
    by_cases h2 : 1 ≤ l ∧ l ≤ 1048576
    · rw [if_pos h2]
      by_cases h3 : 0 ≤ n ∧ n ≤ 31
      · rw [if_pos h3]; congr 1; apply decide_eq_decide.mpr
        unfold wrap64; omega
      · rw [if_neg h3]; congr 1; symm; apply decide_eq_false; omega
    · rw [if_neg h2]; congr 1; symm; apply decide_eq_false; omega
  · rw [if_neg h1]; congr 1; symm; apply decide_eq_false; omega
/-- Two boxes that may be, and have something in common. -/
def MeetP (a b c d x y z t : Int) : Prop := GoodP a b c d ∧ GoodP x y z t ∧ a < x + z ∧ x < a + c ∧ b < y + t ∧ y < b + d
instance (a b c d x y z t : Int) : Decidable (MeetP a b c d x y z t) := by unfold MeetP; infer_instance
theorem pick_ite' {α : Type} (p : Prop) [Decidable p] (x y : Option α) : (if decide p = true then x else y) = if p then x else y := by by_cases h : p <;> simp [h]
theorem Meets_eq (a b c d x y z t : Int) : plane_Meets.f a b c d x y z t = some (decide (MeetP a b c d x y z t)) := by
  unfold plane_Meets.f MeetP
  simp only [Good_eq, Option.bind_some, pick_ite]
  by_cases h1 : GoodP a b c d
  · rw [if_pos h1]
    by_cases h2 : GoodP x y z t
    · rw [if_pos h2]; congr 1; unfold meetB
      rw [← Bool.decide_and, ← Bool.decide_and, ← Bool.decide_and]
      apply decide_eq_decide.mpr
      constructor
      · intro h; refine ⟨h1, h2, ?_⟩; omega
      · intro h; omega
    · rw [if_neg h2]; congr 1; symm; apply decide_eq_false; exact fun h => h2 h.2.1
  · rw [if_neg h1]; congr 1; symm; apply decide_eq_false; exact fun h => h1 h.1
theorem Area_eq (a b c d : Int) : plane_Area.f a b c d = some (if GoodP a b c d then c * d else 0) := by
  unfold plane_Area.f
  simp only [Good_eq, Option.bind_some]
  by_cases h : GoodP a b c d <;> simp [h]
theorem MeetP_comm (a b c d x y z t : Int) : MeetP a b c d x y z t ↔ MeetP x y z t a b c d := by
  unfold MeetP; constructor <;> (rintro ⟨h1, h2, h3, h4, h5, h6⟩; exact ⟨h2, h1, h4, h3, h6, h5⟩)
theorem awake_60 : prebendlaw02_awake.f 60 = some true := by decide +kernel

/-- The box at a place. -/
def bx (L : List S23) (i : Nat) : S23 := L.getD i z23
def gd (x : S23) : Prop := GoodP x.f0 x.f1 x.f2 x.f3
def mt (x y : S23) : Prop := MeetP x.f0 x.f1 x.f2 x.f3 y.f0 y.f1 y.f2 y.f3
theorem mt_comm (x y : S23) : mt x y ↔ mt y x := MeetP_comm _ _ _ _ _ _ _ _
theorem rd_nat (L : List S23) (i : Nat) : rd_T23 L (i : Int) = bx L i := by simp [rd_T23, bx]
theorem bx_take (L : List S23) (i j : Nat) (h : j < i) : bx (L.take i) j = bx L j := by
  unfold bx; simp [List.getD, List.getElem?_take, h]
/-- From a place on: all may be, and none meets one before it. -/
def PlA (L : List S23) (i : Nat) : Prop := ∀ p, i ≤ p → p < L.length → gd (bx L p) ∧ ∀ q, q < p → ¬ mt (bx L p) (bx L q)
open Classical in
theorem apart_in (L : List S23) (i d : Nat) (hi : i + d = L.length) (hd : 0 < d) (hn : L.length ≤ 60)
    (ih : ∀ k, (d - 1) * 70 + 1 ≤ k → plane_Apart.l0 k L L (L.length : Int) ((i + 1 : Nat) : Int) = some (decide (PlA L (i + 1)))) :
    ∀ c j k, j + c = i → c + 1 + ((d - 1) * 70 + 1) ≤ k → plane_Apart.l1 k L L (L.length : Int) (i : Int) (L.take i) (i : Int) (j : Int) (bx L i).f0 (bx L i).f1 (bx L i).f2 (bx L i).f3 = some (decide ((∀ q, j ≤ q → q < i → ¬ mt (bx L i) (bx L q)) ∧ PlA L (i + 1))) := by
  intro c
  induction c with
  | zero =>
    intro j k hj hk
    obtain ⟨k, rfl⟩ : ∃ m, k = m + 1 := ⟨k - 1, by omega⟩
    simp only [plane_Apart.l1]
    rw [if_neg (by omega), show wrap64 ((i : Int) + 1) = ((i + 1 : Nat) : Int) by unfold wrap64; omega, ih k (by omega)]
    congr 1; apply decide_eq_decide.mpr
    exact ⟨fun h => ⟨fun q h1 h2 => by omega, h⟩, fun h => h.2⟩
  | succ c ihc =>
    intro j k hj hk
    obtain ⟨k, rfl⟩ : ∃ m, k = m + 1 := ⟨k - 1, by omega⟩
    simp only [plane_Apart.l1]
    rw [if_pos (by omega), if_pos (by omega), if_pos (by rw [List.length_take]; omega), rd_nat, bx_take L i j (by omega), Meets_eq]
    simp only [Option.bind_some]
    by_cases hm : mt (bx L i) (bx L j)
    · have hm' := hm
      unfold mt at hm'
      rw [if_pos (decide_eq_true hm')]
      congr 1; symm; apply decide_eq_false
      exact fun h => h.1 j (Nat.le_refl _) (by omega) hm
    · have hm' := hm
      unfold mt at hm'
      rw [if_neg (by simpa using hm'), show wrap64 ((j : Int) + 1) = ((j + 1 : Nat) : Int) by unfold wrap64; omega, ihc (j + 1) k (by omega) (by omega)]
      congr 1; apply decide_eq_decide.mpr
      constructor
      · rintro ⟨h1, h2⟩
        refine ⟨fun q a b => ?_, h2⟩
        by_cases e : q = j
        · subst e; exact hm
        · exact h1 q (by omega) b
      · rintro ⟨h1, h2⟩
        exact ⟨fun q a b => h1 q (by omega) b, h2⟩
open Classical in
theorem apart_out (L : List S23) (hn : L.length ≤ 60) : ∀ d i k, i + d = L.length → d * 70 + 1 ≤ k → plane_Apart.l0 k L L (L.length : Int) (i : Int) = some (decide (PlA L i)) := by
  intro d
  induction d with
  | zero =>
    intro i k hi hk
    obtain ⟨k, rfl⟩ : ∃ m, k = m + 1 := ⟨k - 1, by omega⟩
    simp only [plane_Apart.l0]
    rw [if_neg (by omega)]
    congr 1; symm; apply decide_eq_true
    intro p h1 h2; omega
  | succ d ih =>
    intro i k hi hk
    obtain ⟨k, rfl⟩ : ∃ m, k = m + 1 := ⟨k - 1, by omega⟩
    simp only [plane_Apart.l0]
    rw [if_pos (by omega), if_pos (by omega), if_pos (by omega), rd_nat, Good_eq]
    simp only [Option.bind_some]
    by_cases hg : gd (bx L i)
    · have hg' := hg
      unfold gd at hg'
      rw [if_pos (decide_eq_true hg'), if_pos (by omega)]
      have e1 : ((L.take (i : Int).toNat).length : Int) = (i : Int) := by rw [List.length_take]; omega
      rw [e1, show ((i : Int)).toNat = i from rfl, show ((0 : Int)) = ((0 : Nat) : Int) from rfl, apart_in L i (d + 1) hi (by omega) hn (fun k' hk' => ih (i + 1) k' (by omega) (by omega)) i 0 k (by omega) (by omega)]
      congr 1; apply decide_eq_decide.mpr
      constructor
      · rintro ⟨h1, h2⟩ p a b
        by_cases e : p = i
        · subst e; exact ⟨hg, fun q hq => h1 q (by omega) hq⟩
        · exact h2 p (by omega) b
      · intro h
        exact ⟨fun q _ hq => (h i (Nat.le_refl _) (by omega)).2 q hq, fun p a b => h p (by omega) b⟩
    · have hg' := hg
      unfold gd at hg'
      rw [if_neg (by simpa using hg')]
      congr 1; symm; apply decide_eq_false
      exact fun h => hg (h i (Nat.le_refl _) (by omega)).1
open Classical in
theorem Apart_eq (L : List S23) (hn : L.length ≤ 60) (k : Nat) (hk : 4300 ≤ k) : plane_Apart.f k L = some (decide (PlA L 0)) := apart_out L hn L.length 0 k (by omega) (by omega)
open Classical in
theorem Apart_true (L : List S23) (hn : L.length ≤ 60) (k : Nat) (hk : 4300 ≤ k) (h : PlA L 0) : plane_Apart.f k L = some true := by
  rw [Apart_eq L hn k hk]; congr 1; exact decide_eq_true h

theorem and_one (x : Int) : Go.bits .and .i64 x 1 = 0 ∨ Go.bits .and .i64 x 1 = 1 := by
  have h : (BitVec.ofInt 64 x &&& BitVec.ofInt 64 1).toNat = (BitVec.ofInt 64 x).toNat % 2 := by
    rw [BitVec.toNat_and]; exact Nat.and_one_is_mod _
  have e : Go.bits .and .i64 x 1 = IntKind.i64.wrap (((BitVec.ofInt 64 x).toNat % 2 : Nat) : Int) := by
    rw [← h]; rfl
  rw [e, IntKind.wrap_i64]
  omega
theorem bit01 (m n : Int) : bitOf m n = 0 ∨ bitOf m n = 1 := and_one _
theorem u64_small (n : Int) (h0 : 0 ≤ n) (h1 : n < 64) : IntKind.u64.wrap n = n := by
  simp [IntKind.wrap, IntKind.bits, IntKind.signed]; omega
theorem w64_small (n : Int) (h0 : -64 ≤ n) (h1 : n < 4398046511104) : wrap64 n = n := by unfold wrap64; omega
/-- Up over equal bits. -/
theorem up_spec (m t : Int) : ∀ d n k : Nat, n + d = 32 → d < k → ∃ p : Nat, plane_Rows.up k t m (n : Int) = some (p : Int) ∧ n ≤ p ∧ p ≤ 32 ∧ (∀ i : Nat, n ≤ i → i < p → bitOf m i = t) ∧ (p < 32 → bitOf m p ≠ t) := by
  intro d
  induction d with
  | zero =>
    intro n k hn hk
    obtain ⟨k, rfl⟩ : ∃ j, k = j + 1 := ⟨k - 1, by omega⟩
    simp only [plane_Rows.up]
    rw [if_neg (by omega)]
    exact ⟨n, rfl, Nat.le_refl _, by omega, fun i a b => by omega, fun h => by omega⟩
  | succ d ih =>
    intro n k hn hk
    obtain ⟨k, rfl⟩ : ∃ j, k = j + 1 := ⟨k - 1, by omega⟩
    simp only [plane_Rows.up]
    rw [if_pos (by omega)]
    by_cases h : bitOf m n = t
    · rw [if_pos h]
      obtain ⟨p, e, h1, h2, h3, h4⟩ := ih (n + 1) k (by omega) (by omega)
      refine ⟨p, by rw [← e]; rfl, by omega, h2, ?_, h4⟩
      intro i a b
      by_cases hi : i = n
      · subst hi; exact h
      · exact h3 i (by omega) b
    · rw [if_neg h]
      exact ⟨n, rfl, Nat.le_refl _, by omega, fun i a b => by omega, fun _ => h⟩

/-- The rows of a mask from a node on: where each begins, and where it ends. -/
inductive Runs (m : Int) : Nat → List (Nat × Nat) → Prop
  | nil (n : Nat) (h : ∀ i : Nat, n ≤ i → i < 32 → bitOf m i = 0) : Runs m n []
  | cons (n p q : Nat) (L : List (Nat × Nat)) (h1 : n ≤ p) (h2 : p < q) (h3 : q ≤ 32) (h4 : ∀ i : Nat, n ≤ i → i < p → bitOf m i = 0) (h5 : ∀ i : Nat, p ≤ i → i < q → bitOf m i = 1) (h6 : q < 32 → bitOf m q = 0) (h7 : Runs m q L) : Runs m n ((p, q) :: L)
/-- A row as a box. -/
def runBox (a b : Int) (r : Nat × Nat) : S23 := ⟨a, (r.1 : Int), b, (r.2 : Int) - (r.1 : Int)⟩
theorem rows_runs (a b m : Int) : ∀ k n : Nat, ∀ out : List S23, n ≤ 32 → 33 - n ≤ k → ∃ L, Runs m n L ∧ plane_Rows.l k a b m out (n : Int) = some (out ++ L.map (runBox a b)) := by
  intro k
  induction k with
  | zero => intro n out h1 h2; omega
  | succ k ih =>
    intro n out h1 h2
    obtain ⟨p, e, p1, p2, p3, p4⟩ := up_spec m 0 (32 - n) n 40 (by omega) (by omega)
    simp only [plane_Rows.l]
    rw [show plane_Rows.up 40 0 m (n : Int) = some (p : Int) from e, Option.bind_some]
    by_cases hp : p = 32
    · subst hp
      rw [if_pos (show ((32 : Nat) : Int) = 32 from rfl)]
      exact ⟨[], .nil n p3, by simp⟩
    · rw [if_neg (by omega)]
      have hp1 : bitOf m p = 1 := (bit01 m p).resolve_left (p4 (by omega))
      obtain ⟨q, e2, q1, q2, q3, q4⟩ := up_spec m 1 (32 - p) p 40 (by omega) (by omega)
      rw [show plane_Rows.up 40 1 m (p : Int) = some (q : Int) from e2, Option.bind_some]
      have hqp : p < q := by
        by_cases hq : q = p
        · exact absurd hp1 (by have := q4 (by omega); rw [hq] at this; exact this)
        · omega
      obtain ⟨L, l1, l2⟩ := ih q (out ++ [(⟨a, p, b, (q : Int) - p⟩ : S23)]) q2 (by omega)
      refine ⟨(p, q) :: L, .cons n p q L p1 hqp q2 p3 q3 (fun h => (bit01 m q).resolve_right (q4 h)) l1, ?_⟩
      rw [l2, List.map_cons, List.append_assoc]; rfl
theorem rowsF (a b m : Int) (h : GoodP a 0 b 1) : ∃ L, Runs m 0 L ∧ plane_Rows.f a b m = some (L.map (runBox a b)) := by
  obtain ⟨L, l1, l2⟩ := rows_runs a b m 40 0 [] (by omega) (by omega)
  refine ⟨L, l1, ?_⟩
  unfold plane_Rows.f
  simp only [Good_eq, Option.bind_some]
  rw [if_pos (decide_eq_true h)]
  exact l2.trans (by simp)
theorem i64_keep (n : Int) (h0 : 0 ≤ n) (h1 : n < 2 ^ 62) : IntKind.i64.wrap n = n := by rw [IntKind.wrap_i64]; omega
/-- A bit of a natural number. -/
theorem bit_nat (M i : Nat) (hM : M < 2 ^ 62) (hi : i < 32) : bitOf (M : Int) (i : Int) = if M.testBit i then 1 else 0 := by
  unfold bitOf
  have e : shr .i64 (M : Int) (i : Int) = ((M / 2 ^ i : Nat) : Int) := by
    have : shr .i64 (M : Int) (i : Int) = (M : Int) / 2 ^ i := (shr_small rfl (by have : (IntKind.i64.bits : Int) = 64 := rfl; omega)).symm
    rw [this]; simp
  have hl : M / 2 ^ i < 2 ^ 62 := Nat.lt_of_le_of_lt (Nat.div_le_self _ _) hM
  rw [e, show (1 : Int) = ((1 : Nat) : Int) from rfl, (bits_nat .i64 62 (by decide) i64_keep (M / 2 ^ i) 1 hl (by decide)).1, Nat.and_one_is_mod, Nat.testBit_eq_decide_div_mod_eq]
  have := Nat.mod_two_eq_zero_or_one (M / 2 ^ i)
  rcases this with h | h <;> rw [h] <;> simp
/-- How many nodes the rows have. -/
def width : List (Nat × Nat) → Nat
  | [] => 0
  | r :: L => (r.2 - r.1) + width L
/-- How many bits there are from a place on. -/
def ones (m : Int) : Nat → Nat → Int
  | 0, _ => 0
  | d + 1, n => bitOf m (n : Int) + ones m d (n + 1)
theorem ones_split (m : Int) : ∀ c d n : Nat, ones m (c + d) n = ones m c n + ones m d (n + c) := by
  intro c
  induction c with
  | zero => intro d n; simp [ones]
  | succ c ih => intro d n; rw [show c + 1 + d = (c + d) + 1 by omega]; simp only [ones]; rw [ih d (n + 1), show n + 1 + c = n + (c + 1) by omega]; omega
theorem ones_const (m t : Int) : ∀ d n : Nat, (∀ i : Nat, n ≤ i → i < n + d → bitOf m i = t) → ones m d n = d * t := by
  intro d
  induction d with
  | zero => intro n _; simp [ones]
  | succ d ih => intro n h; simp only [ones]; rw [h n (by omega) (by omega), ih (n + 1) (fun i x y => h i (by omega) (by omega))]; rw [show ((d + 1 : Nat) : Int) = (d : Int) + 1 by omega, Int.add_mul]; omega
theorem width_ones (m : Int) (n : Nat) (L : List (Nat × Nat)) (h : Runs m n L) : n ≤ 32 → (width L : Int) = ones m (32 - n) n := by
  induction h with
  | nil n h => intro hn; rw [ones_const m 0 (32 - n) n (fun i x y => h i x (by omega))]; simp [width]
  | cons n p q L h1 h2 h3 h4 h5 h6 h7 ih =>
    intro hn
    have e := ih h3
    rw [show 32 - n = (p - n) + ((q - p) + (32 - q)) by omega, ones_split, ones_split, ones_const m 0 (p - n) n (fun i x y => h4 i x (by omega)), show n + (p - n) = p by omega, ones_const m 1 (q - p) p (fun i x y => h5 i x (by omega)), show p + (q - p) = q by omega, ← e]
    simp only [width]; omega

/-- From some number of rounds on it answers true. -/
def Ev (f : Nat → Option Bool) : Prop := ∃ K, ∀ k, K ≤ k → f k = some true
theorem Ev.step {f g : Nat → Option Bool} (h : ∀ k, f (k + 1) = g k) (hg : Ev g) : Ev f := by
  obtain ⟨K, hK⟩ := hg
  refine ⟨K + 1, fun k hk => ?_⟩
  obtain ⟨k, rfl⟩ : ∃ j, k = j + 1 := ⟨k - 1, by omega⟩
  rw [h]; exact hK k (by omega)
/-- Bits laid in, from a place on. -/
def orR (X s : Nat) : Nat → Nat
  | 0 => X
  | d + 1 => orR (X ||| 2 ^ s) (s + 1) d
theorem orR_lt : ∀ d X s : Nat, X < 2 ^ 32 → s + d ≤ 32 → orR X s d < 2 ^ 32 := by
  intro d
  induction d with
  | zero => intro X s h _; exact h
  | succ d ih =>
    intro X s h hs
    exact ih _ _ (Nat.or_lt_two_pow h (Nat.pow_lt_pow_right (by decide) (by omega))) (by omega)
theorem orR_bit (j : Nat) : ∀ d X s : Nat, (orR X s d).testBit j = (X.testBit j || (decide (s ≤ j) && decide (j < s + d))) := by
  intro d
  induction d with
  | zero => intro X s; simp only [orR]; by_cases h : s ≤ j <;> by_cases h2 : j < s + 0 <;> simp [h, h2] <;> omega
  | succ d ih =>
    intro X s
    simp only [orR]
    rw [ih, Nat.testBit_or, Nat.testBit_two_pow]
    by_cases e : s = j
    · subst e; simp
    · by_cases h1 : s ≤ j
      · have : s + 1 ≤ j := by omega
        by_cases h2 : j < s + (d + 1)
        · have : j < s + 1 + d := by omega
          simp [e, h1, h2, *]
        · have : ¬ j < s + 1 + d := by omega
          simp [e, h1, h2, *]
      · have : ¬ s + 1 ≤ j := by omega
        simp [e, h1, *]
theorem or_step (X s : Nat) (hX : X < 2 ^ 32) (hs : s < 32) : Go.bits .or .i64 (X : Int) (shl .i64 1 (s : Int)) = ((X ||| 2 ^ s : Nat) : Int) := by
  have hp : (2 : Nat) ^ s < 2 ^ 32 := Nat.pow_lt_pow_right (by decide) hs
  have e : shl .i64 1 (s : Int) = ((2 ^ s : Nat) : Int) := by
    have hb : min ((s : Int)).toNat (IntKind.i64.bits) = s := by
      have : IntKind.i64.bits = 64 := rfl
      rw [this]; omega
    unfold shl
    rw [hb, Int.one_mul, show ((2 : Int) ^ s) = ((2 ^ s : Nat) : Int) by simp]
    exact i64_keep _ (Int.natCast_nonneg _) (by exact_mod_cast Nat.lt_trans hp (by decide))
  rw [e, (bits_nat .i64 62 (by decide) i64_keep X (2 ^ s) (Nat.lt_trans hX (by decide)) (Nat.lt_trans hp (by decide))).2]
section
variable (x1 x2 x3 x4 : Int) (A B : List S23)
theorem cov_l2 (hB : B.length ≤ 40) (X : Int) (s : Int) (i : Nat) (hi : i < A.length) (hA : A.length ≤ 40) : ∀ d j : Nat, ∀ t : Bool, j + d = B.length →
    Ev (fun k => prebendlaw02_PlaneCovers.l0 k x1 x2 x3 x4 A B X s (t || (B.drop j).any (fun y => decide (MeetP (bx A i).f0 (bx A i).f1 (bx A i).f2 (bx A i).f3 y.f0 y.f1 y.f2 y.f3))) ((i + 1 : Nat) : Int)) →
    Ev (fun k => prebendlaw02_PlaneCovers.l2 k x1 x2 x3 x4 A B X s t (i : Int) (j : Int)) := by
  intro d
  induction d with
  | zero =>
    intro j t hj h
    refine Ev.step (fun k => ?_) h
    simp only [prebendlaw02_PlaneCovers.l2]
    rw [if_neg (by omega), show B.drop j = [] from List.drop_eq_nil_of_le (by omega), show wrap64 ((i : Int) + 1) = ((i + 1 : Nat) : Int) by unfold wrap64; omega]
    simp
  | succ d ih =>
    intro j t hj h
    have hd : B.drop j = bx B j :: B.drop (j + 1) := by
      rw [List.drop_eq_getElem_cons (show j < B.length by omega)]; congr 1
      simp [bx, List.getD, List.getElem?_eq_getElem (show j < B.length by omega)]
    rw [hd] at h
    cases t with
    | true =>
      refine Ev.step (g := fun k => prebendlaw02_PlaneCovers.l2 k x1 x2 x3 x4 A B X s true (i : Int) ((j + 1 : Nat) : Int)) (fun k => ?_) (ih (j + 1) true (by omega) (by simpa using h))
      simp only [prebendlaw02_PlaneCovers.l2]
      rw [if_pos (by omega), if_pos trivial, show wrap64 ((j : Int) + 1) = ((j + 1 : Nat) : Int) by unfold wrap64; omega]
    | false =>
      refine Ev.step (g := fun k => prebendlaw02_PlaneCovers.l2 k x1 x2 x3 x4 A B X s (decide (MeetP (bx A i).f0 (bx A i).f1 (bx A i).f2 (bx A i).f3 (bx B j).f0 (bx B j).f1 (bx B j).f2 (bx B j).f3)) (i : Int) ((j + 1 : Nat) : Int)) (fun k => ?_) (ih (j + 1) _ (by omega) (by simpa using h))
      simp only [prebendlaw02_PlaneCovers.l2]
      rw [if_pos (by omega), if_neg (by simp), if_pos (by omega), if_pos (by omega), if_pos (by omega), rd_nat, rd_nat, Meets_eq, Option.bind_some, show wrap64 ((j : Int) + 1) = ((j + 1 : Nat) : Int) by unfold wrap64; omega]
theorem cov_l1 (s : Int) (t : Bool) (i : Nat) (hi : i < A.length) (hA : A.length ≤ 40) (p w : Nat) (hp : (bx A i).f1 = (p : Int)) (hw : (bx A i).f3 = (w : Int)) (hpw : p + w ≤ 32) : ∀ d c X : Nat, c + d = w → X < 2 ^ 32 →
    Ev (fun k => prebendlaw02_PlaneCovers.l2 k x1 x2 x3 x4 A B ((orR X (p + c) d : Nat) : Int) (wrap64 (s + (if GoodP (bx A i).f0 (bx A i).f1 (bx A i).f2 (bx A i).f3 then (bx A i).f2 * (bx A i).f3 else 0))) t (i : Int) 0) →
    Ev (fun k => prebendlaw02_PlaneCovers.l1 k x1 x2 x3 x4 A B (X : Int) s t (i : Int) (c : Int)) := by
  intro d
  induction d with
  | zero =>
    intro c X hc hX h
    refine Ev.step (fun k => ?_) h
    simp only [prebendlaw02_PlaneCovers.l1]
    rw [if_pos (by omega), if_pos (by omega), rd_nat, if_neg (by omega), Area_eq, Option.bind_some]
    rfl
  | succ d ih =>
    intro c X hc hX h
    refine Ev.step (g := fun k => prebendlaw02_PlaneCovers.l1 k x1 x2 x3 x4 A B ((X ||| 2 ^ (p + c) : Nat) : Int) s t (i : Int) ((c + 1 : Nat) : Int)) (fun k => ?_) (ih (c + 1) _ (by omega) (Nat.or_lt_two_pow hX (Nat.pow_lt_pow_right (by decide) (by omega))) h)
    have e1 : IntKind.u64.wrap (wrap64 ((p : Int) + (c : Int))) = ((p + c : Nat) : Int) := by rw [w64_small _ (by omega) (by omega), u64_small _ (by omega) (by omega)]; omega
    simp only [prebendlaw02_PlaneCovers.l1]
    rw [if_pos (by omega), if_pos (by omega), rd_nat, if_pos (by omega), hp, e1, if_pos (by omega), or_step X (p + c) hX (by omega), show wrap64 ((c : Int) + 1) = ((c + 1 : Nat) : Int) by unfold wrap64; omega]
end
/-- The bits of all rows, laid in. -/
def orAll (X : Nat) : List (Nat × Nat) → Nat
  | [] => X
  | r :: L => orAll (orR X r.1 (r.2 - r.1)) L
/-- The areas of all rows, added. -/
def sumAll (b s : Int) : List (Nat × Nat) → Int
  | [] => s
  | r :: L => sumAll b (wrap64 (s + b * ((r.2 : Int) - (r.1 : Int)))) L
/-- Does a row meet a box? -/
def metB (a b : Int) (B : List S23) (r : Nat × Nat) : Bool := B.any (fun y => decide (MeetP a (r.1 : Int) b ((r.2 : Int) - (r.1 : Int)) y.f0 y.f1 y.f2 y.f3))
def metAll (a b : Int) (B : List S23) (t : Bool) : List (Nat × Nat) → Bool
  | [] => t
  | r :: L => metAll a b B (t || metB a b B r) L
theorem bx_at (pre : List (Nat × Nat)) (r : Nat × Nat) (L : List (Nat × Nat)) (a b : Int) : bx ((pre ++ r :: L).map (runBox a b)) pre.length = runBox a b r := by
  simp [bx, List.getD]
theorem cov_l0 (x1 x2 x3 x4 : Int) (a b : Int) (ha : 0 ≤ a ∧ a ≤ 65535) (hb : 1 ≤ b ∧ b ≤ 500) (A B : List S23) (hA : A.length ≤ 40) (hB : B.length ≤ 40) : ∀ suf pre : List (Nat × Nat), ∀ X : Nat, ∀ s : Int, ∀ t : Bool,
    A = (pre ++ suf).map (runBox a b) → (∀ r ∈ suf, r.1 < r.2 ∧ r.2 ≤ 32) → X < 2 ^ 32 →
    Ev (fun k => prebendlaw02_PlaneCovers.l3 k x1 x2 x3 x4 A ((orAll X suf : Nat) : Int) (sumAll b s suf) (metAll a b B t suf) 0 0) →
    Ev (fun k => prebendlaw02_PlaneCovers.l0 k x1 x2 x3 x4 A B (X : Int) s t (pre.length : Int)) := by
  intro suf
  induction suf with
  | nil =>
    intro pre X s t hAe _ _ h
    refine Ev.step (fun k => ?_) h
    have hl : A.length = pre.length := by rw [hAe]; simp
    simp only [prebendlaw02_PlaneCovers.l0]
    rw [if_neg (by omega)]
    rfl
  | cons r L ih =>
    intro pre X s t hAe hr hX h
    have hl : A.length = pre.length + (L.length + 1) := by rw [hAe]; simp
    have hi : pre.length < A.length := by omega
    have hbx : bx A pre.length = runBox a b r := by rw [hAe]; exact bx_at pre r L a b
    obtain ⟨r1, r2⟩ := hr r (List.mem_cons_self ..)
    have hg : GoodP a (r.1 : Int) b ((r.2 : Int) - (r.1 : Int)) := by unfold GoodP; omega
    have step := ih (pre ++ [r]) (orR X r.1 (r.2 - r.1)) (wrap64 (s + b * ((r.2 : Int) - (r.1 : Int)))) (t || metB a b B r) (by rw [hAe]; simp) (fun q hq => hr q (List.mem_cons_of_mem _ hq)) (orR_lt _ _ _ hX (by omega)) h
    rw [List.length_append, List.length_singleton] at step
    have s2 := cov_l2 x1 x2 x3 x4 A B hB ((orR X r.1 (r.2 - r.1) : Nat) : Int) (wrap64 (s + b * ((r.2 : Int) - (r.1 : Int)))) pre.length hi hA B.length 0 t (by omega) (by rw [hbx, List.drop_zero]; exact step)
    refine Ev.step (g := fun k => prebendlaw02_PlaneCovers.l1 k x1 x2 x3 x4 A B (X : Int) s t (pre.length : Int) 0) (fun k => ?_) (cov_l1 x1 x2 x3 x4 A B s t pre.length hi hA r.1 (r.2 - r.1) (by rw [hbx]; rfl) (by rw [hbx]; show (r.2 : Int) - (r.1 : Int) = _; omega) (by omega) (r.2 - r.1) 0 X (by omega) hX ?_)
    · simp only [prebendlaw02_PlaneCovers.l0]
      rw [if_pos (by omega)]
    · rw [hbx, Nat.add_zero]
      show Ev (fun k => prebendlaw02_PlaneCovers.l2 k x1 x2 x3 x4 A B _ (wrap64 (s + (if GoodP a (r.1 : Int) b ((r.2 : Int) - (r.1 : Int)) then b * ((r.2 : Int) - (r.1 : Int)) else 0))) t _ 0)
      rw [if_pos hg]
      exact s2
theorem u16_keep (n : Int) (h0 : 0 ≤ n) (h1 : n < 2 ^ 16) : IntKind.u16.wrap n = n := by simp [IntKind.wrap, IntKind.bits, IntKind.signed]; omega
theorem bit_u16 (M i : Nat) (hM : M < 2 ^ 16) (hi : i < 16) : Go.bits .and .u16 (shr .u16 (M : Int) (i : Int)) 1 = bitOf (M : Int) (i : Int) := by
  rw [bit_nat M i (Nat.lt_trans hM (by decide)) (by omega)]
  have e : shr .u16 (M : Int) (i : Int) = ((M / 2 ^ i : Nat) : Int) := by
    have : shr .u16 (M : Int) (i : Int) = (M : Int) / 2 ^ i := (shr_small rfl (by have : (IntKind.u16.bits : Int) = 16 := rfl; omega)).symm
    rw [this]; simp
  have hl : M / 2 ^ i < 2 ^ 16 := Nat.lt_of_le_of_lt (Nat.div_le_self _ _) hM
  rw [e, show (1 : Int) = ((1 : Nat) : Int) from rfl, (bits_nat .u16 16 (by decide) u16_keep (M / 2 ^ i) 1 hl (by decide)).1, Nat.and_one_is_mod, Nat.testBit_eq_decide_div_mod_eq]
  have := Nat.mod_two_eq_zero_or_one (M / 2 ^ i)
  rcases this with h | h <;> rw [h] <;> simp
theorem cov_l3 (x1 x3 x4 : Int) (M : Nat) (hM : M < 2 ^ 16) (A : List S23) (x13 x14 : Int) (t : Bool) : ∀ d n : Nat, ∀ y : Int, n + d = 16 → 0 ≤ y → y ≤ n →
    Ev (fun k => prebendlaw02_PlaneCovers.l3 k x1 (M : Int) x3 x4 A x13 x14 t (y + ones (M : Int) d n) 16) →
    Ev (fun k => prebendlaw02_PlaneCovers.l3 k x1 (M : Int) x3 x4 A x13 x14 t y (n : Int)) := by
  intro d
  induction d with
  | zero =>
    intro n y hn h0 h1 h
    obtain rfl : n = 16 := by omega
    simpa [ones] using h
  | succ d ih =>
    intro n y hn h0 h1 h
    have b01 := bit01 (M : Int) (n : Int)
    refine Ev.step (g := fun k => prebendlaw02_PlaneCovers.l3 k x1 (M : Int) x3 x4 A x13 x14 t (y + bitOf (M : Int) (n : Int)) ((n + 1 : Nat) : Int)) (fun k => ?_) (ih (n + 1) _ (by omega) (by omega) (by omega) (by simpa [ones, Int.add_assoc] using h))
    simp only [prebendlaw02_PlaneCovers.l3]
    rw [if_pos (by omega), u64_small _ (by omega) (by omega), if_pos (by omega), bit_u16 M n hM (by omega), w64_small (bitOf (M : Int) (n : Int)) (by omega) (by omega), w64_small (y + _) (by omega) (by omega), w64_small ((n : Int) + 1) (by omega) (by omega)]
    rfl

theorem ite_one (b : Bool) (h : (if b = true then (1 : Int) else 0) = 1) : b = true := by cases b <;> simp_all
theorem runs_mem (m : Int) (n : Nat) (L : List (Nat × Nat)) (h : Runs m n L) : ∀ r ∈ L, n ≤ r.1 ∧ r.1 < r.2 ∧ r.2 ≤ 32 ∧ ∀ i : Nat, r.1 ≤ i → i < r.2 → bitOf m i = 1 := by
  induction h with
  | nil n h => intro r hr; cases hr
  | cons n p q L h1 h2 h3 h4 h5 h6 h7 ih =>
    intro r hr
    rcases List.mem_cons.1 hr with e | e
    · subst e; exact ⟨h1, h2, h3, h5⟩
    · obtain ⟨a, b, c, d⟩ := ih r e; exact ⟨by omega, b, c, d⟩
theorem runs_cover (m : Int) (n : Nat) (L : List (Nat × Nat)) (h : Runs m n L) : ∀ j : Nat, n ≤ j → j < 32 → bitOf m j = 1 → ∃ r ∈ L, r.1 ≤ j ∧ j < r.2 := by
  induction h with
  | nil n h => intro j h1 h2 h3; have := h j h1 h2; omega
  | cons n p q L h1 h2 h3 h4 h5 h6 h7 ih =>
    intro j a b c
    by_cases e : j < p
    · have := h4 j a e; omega
    · by_cases e2 : j < q
      · exact ⟨(p, q), List.mem_cons_self .., by show p ≤ j; omega, e2⟩
      · obtain ⟨r, r1, r2⟩ := ih j (by omega) b c
        exact ⟨r, List.mem_cons_of_mem _ r1, r2⟩
theorem runs_order (m : Int) (n : Nat) (L : List (Nat × Nat)) (h : Runs m n L) : ∀ i j : Nat, i < j → j < L.length → (L.getD i (0, 0)).2 ≤ (L.getD j (0, 0)).1 := by
  induction h with
  | nil n h => intro i j _ hj; simp at hj
  | cons n p q L h1 h2 h3 h4 h5 h6 h7 ih =>
    intro i j hij hj
    obtain ⟨j, rfl⟩ : ∃ t, j = t + 1 := ⟨j - 1, by omega⟩
    have hj' : j < L.length := by simpa using hj
    cases i with
    | zero =>
      have hm : L.getD j (0, 0) ∈ L := by
        rw [List.getD_eq_getElem?_getD, List.getElem?_eq_getElem hj']; exact List.getElem_mem hj'
      have := (runs_mem m q L h7 _ hm).1
      simpa using this
    | succ i => simpa using ih i j (by omega) hj'
theorem runs_len (m : Int) (n : Nat) (L : List (Nat × Nat)) (h : Runs m n L) : n ≤ 32 → L.length + n ≤ 32 := by
  induction h with
  | nil n h => intro hn; simp; omega
  | cons n p q L h1 h2 h3 h4 h5 h6 h7 ih => intro hn; have := ih h3; simp; omega
theorem orAll_bit (m : Int) (j n : Nat) (L : List (Nat × Nat)) (h : Runs m n L) : ∀ X : Nat, (orAll X L).testBit j = (X.testBit j || decide (n ≤ j ∧ j < 32 ∧ bitOf m j = 1)) := by
  induction h with
  | nil n h =>
    intro X
    have e : decide (n ≤ j ∧ j < 32 ∧ bitOf m j = 1) = false := by
      apply decide_eq_false; rintro ⟨a, b, c⟩; have := h j a b; omega
    rw [e]; simp [orAll]
  | cons n p q L h1 h2 h3 h4 h5 h6 h7 ih =>
    intro X
    simp only [orAll]
    rw [ih, orR_bit, Bool.or_assoc]
    congr 1
    rw [← Bool.decide_and, ← Bool.decide_or]
    apply decide_eq_decide.mpr
    constructor
    · rintro (⟨a, b⟩ | ⟨a, b, c⟩)
      · exact ⟨by omega, by omega, h5 j a (by omega)⟩
      · exact ⟨by omega, b, c⟩
    · rintro ⟨a, b, c⟩
      by_cases e : j < q
      · refine .inl ⟨?_, by omega⟩
        by_cases e2 : p ≤ j
        · exact e2
        · have := h4 j a (by omega); omega
      · exact .inr ⟨by omega, b, c⟩
theorem orAll_eq (M : Nat) (hM : M < 2 ^ 16) (L : List (Nat × Nat)) (h : Runs (M : Int) 0 L) : orAll 0 L = M := by
  apply Nat.eq_of_testBit_eq
  intro j
  rw [orAll_bit (M : Int) j 0 L h 0]
  simp only [Nat.zero_testBit, Bool.false_or, Nat.zero_le, true_and]
  by_cases hj : j < 32
  · rw [bit_nat M j (Nat.lt_trans hM (by decide)) hj]
    cases e : M.testBit j <;> simp [hj]
  · rw [Nat.testBit_lt_two_pow (Nat.lt_of_lt_of_le hM (Nat.pow_le_pow_right (by decide) (by omega)))]
    simp [hj]
theorem sumAll_eq (b : Int) (hb : 1 ≤ b ∧ b ≤ 500) : ∀ (L : List (Nat × Nat)) (s : Int), (∀ r ∈ L, r.1 < r.2 ∧ r.2 ≤ 32) → 0 ≤ s → s + 500 * (width L : Int) ≤ 1000000 → sumAll b s L = s + b * (width L : Int) := by
  intro L
  induction L with
  | nil => intro s _ _ _; simp [sumAll, width]
  | cons r L ih =>
    intro s hr h0 h1
    obtain ⟨r1, r2⟩ := hr r (List.mem_cons_self ..)
    simp only [width] at h1
    have e : (r.2 : Int) - (r.1 : Int) = ((r.2 - r.1 : Nat) : Int) := by omega
    have u1 : 0 ≤ b * ((r.2 - r.1 : Nat) : Int) := Int.mul_nonneg (by omega) (by omega)
    have u2 : b * ((r.2 - r.1 : Nat) : Int) ≤ 500 * ((r.2 - r.1 : Nat) : Int) := Int.mul_le_mul_of_nonneg_right hb.2 (by omega)
    simp only [sumAll, width]
    rw [e, w64_small _ (by omega) (by omega), ih _ (fun q hq => hr q (List.mem_cons_of_mem _ hq)) (by omega) (by omega)]
    rw [Int.natCast_add, Int.mul_add]; omega
theorem ones_high (M : Nat) (hM : M < 2 ^ 16) : ones (M : Int) 16 16 = 0 := by
  rw [ones_const (M : Int) 0 16 16 (fun i x y => ?_)]
  · omega
  · rw [bit_nat M i (Nat.lt_trans hM (by decide)) (by omega), Nat.testBit_lt_two_pow (Nat.lt_of_lt_of_le hM (Nat.pow_le_pow_right (by decide) (by omega)))]; rfl
theorem ones_bd (m : Int) : ∀ d n : Nat, 0 ≤ ones m d n ∧ ones m d n ≤ d := by
  intro d
  induction d with
  | zero => intro n; simp [ones]
  | succ d ih => intro n; have := ih (n + 1); have := bit01 m (n : Int); simp only [ones]; omega
theorem metAll_any (a b : Int) (B : List S23) : ∀ (L : List (Nat × Nat)) (t : Bool), metAll a b B t L = (t || L.any (metB a b B)) := by
  intro L
  induction L with
  | nil => intro t; simp [metAll]
  | cons r L ih => intro t; simp only [metAll, List.any_cons]; rw [ih, Bool.or_assoc]
theorem any_meet (a b s : Int) (ha : 0 ≤ a ∧ a ≤ 65535) (hb : 1 ≤ b ∧ b ≤ 500) (hs : 0 ≤ s ∧ s < 600) (M O : Nat) (hM : M < 2 ^ 16) (hO : O < 2 ^ 16) (L K : List (Nat × Nat)) (hL : Runs (M : Int) 0 L) (hK : Runs (O : Int) 0 K) :
    L.any (metB a b (K.map (runBox (a + s) 5))) = decide (M &&& O ≠ 0 ∧ s < b) := by
  rw [Bool.eq_iff_iff, decide_eq_true_iff, List.any_eq_true]
  constructor
  · rintro ⟨r, hr, h⟩
    unfold metB at h
    rw [List.any_eq_true] at h
    obtain ⟨y, hy, h⟩ := h
    obtain ⟨u, hu, rfl⟩ := List.mem_map.1 hy
    have h := of_decide_eq_true h
    simp only [runBox] at h
    unfold MeetP at h
    obtain ⟨_, _, c1, c2, c3, c4⟩ := h
    obtain ⟨_, r1, r2, r3⟩ := runs_mem _ _ _ hL r hr
    obtain ⟨_, u1, u2, u3⟩ := runs_mem _ _ _ hK u hu
    refine ⟨?_, by omega⟩
    have hj := r3 (max r.1 u.1) (by omega) (by omega)
    have hk := u3 (max r.1 u.1) (by omega) (by omega)
    rw [bit_nat M _ (Nat.lt_trans hM (by decide)) (by omega)] at hj
    rw [bit_nat O _ (Nat.lt_trans hO (by decide)) (by omega)] at hk
    intro h0
    have := Nat.testBit_and M O (max r.1 u.1)
    rw [h0, Nat.zero_testBit] at this
    rw [ite_one _ hj, ite_one _ hk] at this
    simp at this
  · rintro ⟨h0, hsb⟩
    obtain ⟨j, hj⟩ : ∃ j, (M &&& O).testBit j = true := Nat.exists_testBit_of_ne_zero h0
    rw [Nat.testBit_and, Bool.and_eq_true] at hj
    have hj16 : j < 32 := by
      by_cases e : j < 32
      · exact e
      · have := Nat.testBit_lt_two_pow (x := M) (i := j) (Nat.lt_of_lt_of_le hM (Nat.pow_le_pow_right (by decide) (by omega)))
        rw [this] at hj; exact absurd hj.1 (by simp)
    obtain ⟨r, hr, r1, r2⟩ := runs_cover _ _ _ hL j (Nat.zero_le _) hj16 (by rw [bit_nat M j (Nat.lt_trans hM (by decide)) hj16, hj.1]; rfl)
    obtain ⟨u, hu, u1, u2⟩ := runs_cover _ _ _ hK j (Nat.zero_le _) hj16 (by rw [bit_nat O j (Nat.lt_trans hO (by decide)) hj16, hj.2]; rfl)
    obtain ⟨_, a1, a2, _⟩ := runs_mem _ _ _ hL r hr
    obtain ⟨_, b1, b2, _⟩ := runs_mem _ _ _ hK u hu
    refine ⟨r, hr, ?_⟩
    unfold metB
    rw [List.any_eq_true]
    refine ⟨runBox (a + s) 5 u, List.mem_map.2 ⟨u, hu, rfl⟩, decide_eq_true ?_⟩
    simp only [runBox]
    unfold MeetP GoodP
    omega
theorem runs_apart (a b m : Int) (ha : 0 ≤ a ∧ a ≤ 65535) (hb : 1 ≤ b ∧ b ≤ 500) (L : List (Nat × Nat)) (h : Runs m 0 L) : PlA (L.map (runBox a b)) 0 := by
  have hbx : ∀ i, i < L.length → bx (L.map (runBox a b)) i = runBox a b (L.getD i (0, 0)) := by
    intro i hi; simp [bx, List.getD, List.getElem?_eq_getElem hi]
  have hmem : ∀ i, i < L.length → L.getD i (0, 0) ∈ L := by
    intro i hi; rw [List.getD_eq_getElem?_getD, List.getElem?_eq_getElem hi]; exact List.getElem_mem hi
  intro p _ hp
  rw [List.length_map] at hp
  obtain ⟨_, p1, p2, _⟩ := runs_mem _ _ _ h _ (hmem p hp)
  rw [hbx p hp]
  refine ⟨by unfold gd runBox GoodP; simp only []; omega, fun q hq hm => ?_⟩
  rw [hbx q (by omega)] at hm
  have := runs_order _ _ _ h q p hq hp
  unfold mt runBox MeetP at hm
  simp only [] at hm
  omega

theorem awake_ev : ∀ k, 4300 ≤ k → prebendlaw02_awake.f k = some true := by
  intro k hk
  have base : prebendlaw02_awake.f 60 = some true := awake_60
  have step : ∀ d, prebendlaw02_awake.f (60 + d) = some true := by
    intro d
    induction d with
    | zero => exact base
    | succ d ih => exact prebendlaw02_awake.mono (60 + d) _ ih
  have := step (k - 60)
  rwa [show 60 + (k - 60) = k by omega] at this
theorem wf16 (x : Int) (h : (Lit.int .u16 x).wf = true) : 0 ≤ x ∧ x < 65536 := by
  simp only [Lit.wf, Bool.and_eq_true, decide_eq_true_eq] at h
  have e1 : IntKind.u16.min = 0 := by decide +kernel
  have e2 : IntKind.u16.max = 65535 := by decide +kernel
  omega
theorem PlaneCovers : prebendlaw02_PlaneCovers.Pure := by
  intro a l m s o ha hl hm hs ho
  obtain ⟨a0, a1⟩ := wf16 a ha
  obtain ⟨l0, l1⟩ := wf16 l hl
  obtain ⟨m0, m1⟩ := wf16 m hm
  obtain ⟨s0, s1⟩ := wf16 s hs
  obtain ⟨o0, o1⟩ := wf16 o ho
  obtain ⟨M, rfl⟩ := Int.eq_ofNat_of_zero_le m0
  obtain ⟨O, rfl⟩ := Int.eq_ofNat_of_zero_le o0
  have hM : M < 2 ^ 16 := by omega
  have hO : O < 2 ^ 16 := by omega
  have tl : Int.tmod l 500 = l % 500 := Int.tmod_eq_emod_of_nonneg l0
  have ts : Int.tmod s 600 = s % 600 := Int.tmod_eq_emod_of_nonneg s0
  obtain ⟨b, hb⟩ : ∃ b, 1 + l % 500 = b := ⟨_, rfl⟩
  obtain ⟨t, ht⟩ : ∃ t, s % 600 = t := ⟨_, rfl⟩
  have hb1 : 1 ≤ b ∧ b ≤ 500 := by omega
  have ht1 : 0 ≤ t ∧ t < 600 := by omega
  have eb : wrap64 (1 + wrap64 (Int.tmod l 500)) = b := by rw [tl, w64_small (l % 500) (by omega) (by omega), hb, w64_small b (by omega) (by omega)]
  have et : wrap64 (Int.tmod s 600) = t := by rw [ts, ht, w64_small t (by omega) (by omega)]
  have ea : wrap64 a = a := w64_small a (by omega) (by omega)
  have eM : wrap64 (M : Int) = (M : Int) := w64_small _ (by omega) (by omega)
  have eO : wrap64 (O : Int) = (O : Int) := w64_small _ (by omega) (by omega)
  have eat : wrap64 (a + t) = a + t := w64_small _ (by omega) (by omega)
  obtain ⟨L, hL, fL⟩ := rowsF a b (M : Int) (by unfold GoodP; omega)
  obtain ⟨K, hK, fK⟩ := rowsF (a + t) 5 (O : Int) (by unfold GoodP; omega)
  have lL := runs_len _ _ _ hL (by omega)
  have lK := runs_len _ _ _ hK (by omega)
  have wL := width_ones _ _ _ hL (by omega)
  have w16 : (width L : Int) = ones (M : Int) 16 0 := by
    rw [wL, show 32 - 0 = 16 + 16 from rfl, ones_split, ones_high M hM]; omega
  have wb := ones_bd (M : Int) 16 0
  have hmem : ∀ r ∈ L, r.1 < r.2 ∧ r.2 ≤ 32 := fun r hr => ⟨(runs_mem _ _ _ hL r hr).2.1, (runs_mem _ _ _ hL r hr).2.2.1⟩
  have p0 : 0 ≤ b * ones (M : Int) 16 0 := Int.mul_nonneg (by omega) wb.1
  have p1 : b * ones (M : Int) 16 0 ≤ 500 * ones (M : Int) 16 0 := Int.mul_le_mul_of_nonneg_right hb1.2 wb.1
  have pc : wrap64 (ones (M : Int) 16 0 * b) = b * ones (M : Int) 16 0 := by rw [Int.mul_comm (ones (M : Int) 16 0) b]; exact w64_small _ (by omega) (by omega)
  have key : Ev (fun k => prebendlaw02_PlaneCovers.l0 k l (M : Int) s (O : Int) (L.map (runBox a b)) (K.map (runBox (a + t) 5)) ((0 : Nat) : Int) 0 false (([] : List (Nat × Nat)).length : Int)) := by
    refine cov_l0 l (M : Int) s (O : Int) a b (by omega) hb1 _ _ (by simp; omega) (by simp; omega) L [] 0 0 false (by simp) hmem (by decide) ?_
    rw [orAll_eq M hM L hL, sumAll_eq b hb1 L 0 hmem (by omega) (by omega), metAll_any, any_meet a b t (by omega) hb1 ht1 M O hM hO L K hL hK]
    refine cov_l3 l s (O : Int) M hM _ _ _ _ 16 0 0 (by omega) (by omega) (by omega) ?_
    refine ⟨4301, fun k hk => ?_⟩
    obtain ⟨k, rfl⟩ : ∃ j, k = j + 1 := ⟨k - 1, by omega⟩
    simp only [prebendlaw02_PlaneCovers.l3]
    rw [if_neg (by omega), awake_ev k (by omega), Option.bind_some, if_pos rfl, Apart_true _ (by simp; omega) k (by omega) (runs_apart a b (M : Int) (by omega) hb1 L hL), Option.bind_some, if_pos rfl, eM, if_pos rfl, eb, et, w16, Int.zero_add, Int.zero_add]
    rw [if_pos pc.symm]
    rw [(bits_nat .u16 16 (by decide) u16_keep M O hM hO).1]
    by_cases h : M &&& O = 0
    · rw [if_pos (by rw [h]; rfl)]; simp [h]
    · rw [if_neg (by omega)]; simp [h]
  obtain ⟨N, hN⟩ := key
  refine ⟨N, ?_⟩
  unfold prebendlaw02_PlaneCovers.f
  rw [ea, eb, et, eM, eO, eat, fL, Option.bind_some, fK, Option.bind_some]
  exact hN N (Nat.le_refl _)

end Go.Proofs.Ytokljfnicijheab.Pure
