/- Contracts of functions of the program, each with a plain function of the same answers; written by a program of this workplace. -/
import Derived.Test.YtcocaapihhgckaaPAllx0
namespace Go.Proofs.Ytcocaapihhgckaa.PAll
open Go.RowKit Go.Proofs.YtcocaapihhgckaaW.PrintWords Go.Proofs.YtcocaapihhgckaaW.PrintLast Go.Proofs.YtcocaapihhgckaaW.PrintMore
attribute [local go_sem] max2_int min2_int max_two min_two max_three min_three max_four min_four   -- for this text's walks alone
set_option linter.unusedVariables false
set_option linter.unusedSimpArgs false

/-! ### plane_size: function 22 -/
namespace Flt
open Ieee
theorem log2_eq {n k : Nat} (h0 : 2 ^ k ≤ n) (h1 : n < 2 ^ (k + 1)) : n.log2 = k := by
  have hn : n ≠ 0 := by have := Nat.two_pow_pos k; omega
  have a := (Nat.le_log2 hn).2 h0
  have b := (Nat.log2_lt hn).2 h1
  omega
theorem log2_shift (n k : Nat) (hn : n ≠ 0) : (n * 2 ^ k).log2 = n.log2 + k := by
  apply log2_eq
  · rw [Nat.pow_add]; exact Nat.mul_le_mul_right _ (Nat.log2_self_le hn)
  · have : n.log2 + k + 1 = (n.log2 + 1) + k := by omega
    rw [this, Nat.pow_add]; exact Nat.mul_lt_mul_of_pos_right Nat.lt_log2_self (Nat.two_pow_pos k)
/-- The rung of a whole number N below 2^53. -/
def rung (N : Nat) : Nat := (N.log2 + 1022) * 4503599627370496 + N * 2 ^ (52 - N.log2)
theorem log2_le52 {N : Nat} (hN : N ≠ 0) (h : N < 9007199254740992) : N.log2 ≤ 52 := by
  have := (Nat.log2_lt (k := 53) hN).2 h; omega
theorem sig_bd {N : Nat} (hN : N ≠ 0) (h : N < 9007199254740992) : 4503599627370496 ≤ N * 2 ^ (52 - N.log2) ∧ N * 2 ^ (52 - N.log2) < 9007199254740992 := by
  have hl := log2_le52 hN h
  have e1 : (4503599627370496 : Nat) = 2 ^ N.log2 * 2 ^ (52 - N.log2) := by rw [← Nat.pow_add, show N.log2 + (52 - N.log2) = 52 by omega]
  have e2 : (9007199254740992 : Nat) = 2 ^ (N.log2 + 1) * 2 ^ (52 - N.log2) := by rw [← Nat.pow_add, show N.log2 + 1 + (52 - N.log2) = 53 by omega]
  rw [e2]
  constructor
  · rw [e1]; exact Nat.mul_le_mul_right _ (Nat.log2_self_le hN)
  · exact Nat.mul_lt_mul_of_pos_right Nat.lt_log2_self (Nat.two_pow_pos _)
theorem rung_arith (L B : Nat) (hl : L ≤ 52) (s1 : 4503599627370496 ≤ B) (s2 : B < 9007199254740992) :
    min (((L : Int) - 52 - -1074).toNat * 4503599627370496 + B) 9218868437227405312 = (L + 1022) * 4503599627370496 + B ∧ (L + 1022) * 4503599627370496 + B < 9223372036854775808 ∧
    ((L + 1022) * 4503599627370496 + B) / 4503599627370496 = L + 1023 ∧ ((L + 1022) * 4503599627370496 + B) % 4503599627370496 = B - 4503599627370496 ∧ ¬ (L + 1022) * 4503599627370496 + B < 4503599627370496 ∧ (L + 1022) * 4503599627370496 + B < 9218868437227405312 := by
  have e3 : ((L : Int) - 52 - -1074).toNat = L + 1022 := by omega
  rw [e3]
  refine ⟨?_, ?_, ?_, ?_, ?_, ?_⟩ <;> omega
theorem cut_exact (neg : Bool) (q d : Nat) (hq : q ≠ 0) : Toward.even.cut neg (q * 2 ^ d) d = q := by
  unfold Toward.cut
  have h1 : min d ((q * 2 ^ d).log2 + 2) = d := by rw [log2_shift q d hq]; omega
  have hp := Nat.two_pow_pos d
  simp only [h1, Nat.one_shiftLeft, Nat.mul_mod_left, Nat.mul_zero, Nat.mul_div_cancel q hp]
  have : (2 ^ d == 0) = false := by simp
  simp [this]
theorem nearest_exact (neg : Bool) (N k : Nat) (hN : N ≠ 0) (h : N < 9007199254740992) : double.nearest neg (N * 2 ^ k) (-(k : Int)) = double.word neg (rung N) := by
  have hl := log2_le52 hN h
  obtain ⟨s1, s2⟩ := sig_bd hN h
  unfold Format.nearest
  have hm : N * 2 ^ k ≠ 0 := Nat.mul_ne_zero hN (Nat.ne_of_gt (Nat.two_pow_pos k))
  have lp : double.leastPlace = -1074 := by decide +kernel
  have fb : double.fractionBits = 52 := rfl
  have bn : double.binade = 4503599627370496 := by decide +kernel
  have ir : double.infRung = 9218868437227405312 := by decide +kernel
  rw [if_neg hm]
  simp only [log2_shift N k hN, lp, fb, bn, ir]
  have hlast : max (-(k : Int) + ((N.log2 + k : Nat) : Int) - (52 : Nat)) (-1074) = (N.log2 : Int) - 52 := by omega
  rw [hlast]
  have hkept : Toward.even.cut neg ((N * 2 ^ k) <<< (-(k : Int) - ((N.log2 : Int) - 52)).toNat) ((N.log2 : Int) - 52 - -(k : Int)).toNat = N * 2 ^ (52 - N.log2) := by
    rcases Nat.le_total (52 - N.log2) k with hk | hk
    · obtain ⟨d, rfl⟩ : ∃ d, k = (52 - N.log2) + d := ⟨k - (52 - N.log2), by omega⟩
      have e1 : (-((52 - N.log2 + d : Nat) : Int) - ((N.log2 : Int) - 52)).toNat = 0 := by omega
      have e2 : ((N.log2 : Int) - 52 - -((52 - N.log2 + d : Nat) : Int)).toNat = d := by omega
      rw [e1, e2, Nat.shiftLeft_zero, Nat.pow_add, ← Nat.mul_assoc]
      exact cut_exact neg _ d (by omega)
    · have e1 : (-(k : Int) - ((N.log2 : Int) - 52)).toNat = 52 - N.log2 - k := by omega
      have e2 : ((N.log2 : Int) - 52 - -(k : Int)).toNat = 0 := by omega
      rw [e1, e2, Nat.shiftLeft_eq, Nat.mul_assoc, ← Nat.pow_add, show k + (52 - N.log2 - k) = 52 - N.log2 by omega]
      have := cut_exact neg (N * 2 ^ (52 - N.log2)) 0 (by omega)
      simpa using this
  rw [hkept]
  have key : min (((N.log2 : Int) - 52 - -1074).toNat * 4503599627370496 + N * 2 ^ (52 - N.log2)) 9218868437227405312 = rung N := (rung_arith _ _ hl s1 s2).1
  rw [key]
theorem rung_lt {N : Nat} (hN : N ≠ 0) (h : N < 9007199254740992) : rung N < 9223372036854775808 := by
  obtain ⟨s1, s2⟩ := sig_bd hN h
  exact (rung_arith _ _ (log2_le52 hN h) s1 s2).2.1
theorem read_word (neg : Bool) (r : Nat) (hr : r < 9223372036854775808) : (double.word neg r / double.signWeight % 2 == 1) = neg ∧ double.word neg r % double.signWeight = r := by
  have sw : double.signWeight = 9223372036854775808 := by decide +kernel
  unfold Format.word
  rw [sw]
  cases neg with
  | false =>
    have h1 : r / 9223372036854775808 = 0 := Nat.div_eq_of_lt hr
    have h2 : r % 9223372036854775808 = r := Nat.mod_eq_of_lt hr
    exact ⟨by rw [if_neg (by decide), h1]; rfl, by rw [if_neg (by decide), h2]⟩
  | true =>
    have h1 : (9223372036854775808 + r) / 9223372036854775808 = 1 := by omega
    have h2 : (9223372036854775808 + r) % 9223372036854775808 = r := by omega
    exact ⟨by rw [if_pos rfl, h1]; rfl, by rw [if_pos rfl, h2]⟩
theorem read_rung (neg : Bool) (N : Nat) (hN : N ≠ 0) (h : N < 9007199254740992) : double.read (double.word neg (rung N)) = .number neg (N * 2 ^ (52 - N.log2)) (-((52 - N.log2 : Nat) : Int)) := by
  have hl := log2_le52 hN h
  obtain ⟨s1, s2⟩ := sig_bd hN h
  obtain ⟨r1, r2⟩ := read_word neg _ (rung_lt hN h)
  unfold Format.read
  rw [r1, r2]
  have bn : double.binade = 4503599627370496 := by decide +kernel
  have ir : double.infRung = 9218868437227405312 := by decide +kernel
  have lp : double.leastPlace = -1074 := by decide +kernel
  obtain ⟨_, _, hdiv, hmod, h1, h2⟩ := rung_arith _ _ hl s1 s2
  have hdiv' : rung N / 4503599627370496 = N.log2 + 1023 := hdiv
  have hmod' : rung N % 4503599627370496 = N * 2 ^ (52 - N.log2) - 4503599627370496 := hmod
  simp only [bn, ir, lp, hdiv', hmod']
  have h1' : ¬ rung N < 4503599627370496 := h1
  have h2' : rung N < 9218868437227405312 := h2
  rw [if_neg h1', if_pos h2']
  have q1 : 4503599627370496 + (N * 2 ^ (52 - N.log2) - 4503599627370496) = N * 2 ^ (52 - N.log2) := Nat.add_sub_cancel' s1
  have q2 : (-1074 : Int) + ((N.log2 + 1023 - 1 : Nat) : Int) = -((52 - N.log2 : Nat) : Int) := by clear q1 hdiv hmod hdiv' hmod' h1 h2 s1 s2; omega
  rw [q1, q2]
theorem read_zero (neg : Bool) : double.read (double.word neg 0) = .number neg 0 (-1074) := by cases neg <;> decide +kernel
/-- x is a word of the whole number n. -/
def Is (x : Nat) (n : Int) : Prop := n.natAbs < 9007199254740992 ∧ ∃ (s : Bool) (r k : Nat), x = double.word s r ∧ r < 9223372036854775808 ∧ double.read x = .number s (n.natAbs * 2 ^ k) (-(k : Int)) ∧ (n ≠ 0 → s = decide (n < 0))
theorem is_near (n : Int) (k : Nat) (neg : Bool) (h : n.natAbs < 9007199254740992) (hs : n ≠ 0 → neg = decide (n < 0)) : Is (double.nearest neg (n.natAbs * 2 ^ k) (-(k : Int))) n := by
  refine ⟨h, ?_⟩
  by_cases hn : n = 0
  · subst hn
    have : double.nearest neg ((0 : Int).natAbs * 2 ^ k) (-(k : Int)) = double.word neg 0 := by
      unfold Format.nearest; simp
    rw [this]
    refine ⟨neg, 0, 1074, rfl, by omega, ?_, fun h => absurd rfl h⟩
    rw [read_zero]
    have e : ∀ q : Nat, (0 : Int).natAbs * q = 0 := fun q => Nat.zero_mul q
    rw [e]; rfl
  · have hN : n.natAbs ≠ 0 := by omega
    rw [nearest_exact neg _ k hN h]
    exact ⟨neg, _, _, rfl, rung_lt hN h, read_rung neg _ hN h, hs⟩
theorem is_int (n : Int) (h : n.natAbs < 9007199254740992) : Is (Go.FloatKind.nearest .f64 n) n := by
  have := is_near n 0 (decide (n < 0)) h (fun _ => rfl)
  simpa [Go.FloatKind.nearest, Go.FloatKind.encode, Go.FloatKind.format, Format.write] using this
theorem signed_eq (n : Int) (s : Bool) (k u : Nat) (hs : n ≠ 0 → s = decide (n < 0)) : signed s (n.natAbs * 2 ^ k) u = n * 2 ^ (k + u) := by
  unfold signed
  rw [Nat.shiftLeft_eq, Nat.mul_assoc, ← Nat.pow_add]
  by_cases hn : n = 0
  · subst hn; cases s <;> simp
  · have := hs hn
    subst this
    by_cases h : n < 0
    · simp only [h, decide_true, if_true]
      have e : (n.natAbs : Int) = -n := by omega
      rw [Int.natCast_mul, e, Int.natCast_pow]; simp [Int.neg_mul]
    · simp only [h, decide_false, Bool.false_eq_true, if_false]
      have e : (n.natAbs : Int) = n := by omega
      rw [Int.natCast_mul, e, Int.natCast_pow]; simp
theorem pow_pos' (k : Nat) : (0 : Int) < 2 ^ k := by exact_mod_cast Nat.two_pow_pos k
theorem sum_num (a b : Int) (s t : Bool) (k j : Nat) (hs : a ≠ 0 → s = decide (a < 0)) (ht : b ≠ 0 → t = decide (b < 0)) (hab : (a + b).natAbs < 9007199254740992) :
    ∃ z, ((Datum.number s (a.natAbs * 2 ^ k) (-(k : Int))).sum (.number t (b.natAbs * 2 ^ j) (-(j : Int)))).map double.write = some z ∧ Is z (a + b) := by
  simp only [Datum.sum]
  have hb : min (-(k : Int)) (-(j : Int)) = -((max k j : Nat) : Int) := by omega
  rw [hb]
  have e1 : (-(k : Int) - -((max k j : Nat) : Int)).toNat = max k j - k := by omega
  have e2 : (-(j : Int) - -((max k j : Nat) : Int)).toNat = max k j - j := by omega
  rw [e1, e2, signed_eq a s k _ hs, signed_eq b t j _ ht, show k + (max k j - k) = max k j by omega, show j + (max k j - j) = max k j by omega, ← Int.add_mul]
  refine ⟨_, rfl, ?_⟩
  generalize max k j = m
  simp only [Format.write]
  have hp := pow_pos' m
  have hna : ((a + b) * 2 ^ m).natAbs = (a + b).natAbs * 2 ^ m := by rw [Int.natAbs_mul, Int.natAbs_pow]; rfl
  rw [hna]
  refine is_near (a + b) m _ hab (fun hne => ?_)
  have h0 : ¬ ((a + b) * 2 ^ m = 0) := by
    intro h; rcases Int.mul_eq_zero.1 h with h | h
    · exact hne h
    · omega
  rw [if_neg h0]
  apply decide_eq_decide.2
  constructor
  · intro h
    rcases Int.lt_or_le (a + b) 0 with h1 | h1
    · exact h1
    · have := Int.mul_nonneg h1 (Int.le_of_lt hp); omega
  · intro h; exact Int.mul_neg_of_neg_of_pos h hp
theorem is_sub {x y : Nat} {a b : Int} (hx : Is x a) (hy : Is y b) (h : (a - b).natAbs < 9007199254740992) : ∃ z, double.sub x y = some z ∧ Is z (a - b) := by
  obtain ⟨_, s, r, k, _, _, rx, hs⟩ := hx
  obtain ⟨_, t, q, j, _, _, ry, ht⟩ := hy
  unfold Format.sub
  rw [rx, ry]
  simp only [Datum.opposite]
  have := sum_num a (-b) s (!t) k j hs (fun hb => by rw [ht (by omega)]; by_cases h : b < 0 <;> simp [h] <;> omega) (by rw [← Int.sub_eq_add_neg]; exact h)
  rw [Int.natAbs_neg, ← Int.sub_eq_add_neg] at this
  exact this
theorem is_mul {x y : Nat} {a b : Int} (hx : Is x a) (hy : Is y b) (h : (a * b).natAbs < 9007199254740992) : ∃ z, double.mul x y = some z ∧ Is z (a * b) := by
  obtain ⟨_, s, r, k, _, _, rx, hs⟩ := hx
  obtain ⟨_, t, q, j, _, _, ry, ht⟩ := hy
  unfold Format.mul
  rw [rx, ry]
  simp only [Datum.product, Option.map_some, Format.write]
  refine ⟨_, rfl, ?_⟩
  have e : a.natAbs * 2 ^ k * (b.natAbs * 2 ^ j) = (a * b).natAbs * 2 ^ (k + j) := by
    rw [Int.natAbs_mul, Nat.pow_add]; simp only [Nat.mul_assoc, Nat.mul_left_comm]
  have e2 : (-(k : Int) + -(j : Int)) = -((k + j : Nat) : Int) := by omega
  rw [e, e2]
  refine is_near (a * b) (k + j) _ h (fun hne => ?_)
  have ha : a ≠ 0 := fun h => hne (by rw [h, Int.zero_mul])
  have hb : b ≠ 0 := fun h => hne (by rw [h, Int.mul_zero])
  rw [hs ha, ht hb]
  by_cases h1 : a < 0 <;> by_cases h2 : b < 0 <;> simp [h1, h2]
  · exact Int.le_of_lt (Int.mul_pos_of_neg_of_neg h1 h2)
  · exact Int.mul_neg_of_neg_of_pos h1 (by omega)
  · exact Int.mul_neg_of_pos_of_neg (by omega) h2
  · exact Int.mul_nonneg (by omega) (by omega)
theorem is_order {x y : Nat} {a b : Int} (hx : Is x a) (hy : Is y b) : double.order x y = some (compare a b) := by
  obtain ⟨_, s, r, k, _, _, rx, hs⟩ := hx
  obtain ⟨_, t, q, j, _, _, ry, ht⟩ := hy
  unfold Format.order
  rw [rx, ry]
  simp only [Datum.order]
  have hb : min (-(k : Int)) (-(j : Int)) = -((max k j : Nat) : Int) := by omega
  rw [hb]
  have e1 : (-(k : Int) - -((max k j : Nat) : Int)).toNat = max k j - k := by omega
  have e2 : (-(j : Int) - -((max k j : Nat) : Int)).toNat = max k j - j := by omega
  rw [e1, e2, signed_eq a s k _ hs, signed_eq b t j _ ht, show k + (max k j - k) = max k j by omega, show j + (max k j - j) = max k j by omega]
  generalize max k j = m
  have hp := pow_pos' m
  refine congrArg some ?_
  simp only [compare, compareOfLessAndEq]
  have hlt : a * 2 ^ m < b * 2 ^ m ↔ a < b := Int.mul_lt_mul_right hp
  have heq : a * 2 ^ m = b * 2 ^ m ↔ a = b := Int.mul_eq_mul_right_iff (by omega)
  simp only [hlt, heq]
theorem is_toInt {x : Nat} {a : Int} (hx : Is x a) : (double.read x).toInt .zero = some a := by
  obtain ⟨_, s, r, k, _, _, rx, hs⟩ := hx
  rw [rx]
  simp only [Datum.toInt, Datum.integral]
  have e1 : (-(k : Int)).toNat = 0 := by omega
  have e2 : (- -(k : Int)).toNat = k := by omega
  rw [e1, e2, Nat.shiftLeft_zero]
  have hc : Toward.zero.cut s (a.natAbs * 2 ^ k) k = a.natAbs := by
    unfold Toward.cut
    by_cases hz : a.natAbs = 0
    · rw [hz]; simp
    · have h1 : min k ((a.natAbs * 2 ^ k).log2 + 2) = k := by rw [log2_shift _ k hz]; omega
      simp only [h1, Nat.one_shiftLeft, Nat.mul_div_cancel _ (Nat.two_pow_pos k)]
      rfl
  rw [hc]
  have := signed_eq a s 0 0 hs
  simp only [Nat.pow_zero, Nat.mul_one, Nat.add_zero, Int.pow_zero, Int.mul_one] at this
  rw [this]
theorem xor_top (r : Nat) (hr : r < 2 ^ 63) : r ^^^ 2 ^ 63 = 2 ^ 63 + r ∧ (2 ^ 63 + r) ^^^ 2 ^ 63 = r := by
  have h : r ^^^ 2 ^ 63 = 2 ^ 63 + r := by
    apply Nat.eq_of_testBit_eq
    intro i
    rw [Nat.testBit_xor, Nat.testBit_two_pow]
    by_cases hi : i = 63
    · subst hi
      rw [Nat.testBit_lt_two_pow hr, Nat.testBit_two_pow_add_eq, Nat.testBit_lt_two_pow hr]; simp
    · rw [show decide (63 = i) = false by simp; omega]
      rcases Nat.lt_or_ge i 63 with h | h
      · rw [Nat.testBit_two_pow_add_gt h]; simp
      · rw [Nat.testBit_lt_two_pow (Nat.lt_of_lt_of_le hr (Nat.pow_le_pow_right (by omega) h)), Nat.testBit_lt_two_pow]
        · simp
        · calc 2 ^ 63 + r < 2 ^ 64 := by omega
            _ ≤ 2 ^ i := Nat.pow_le_pow_right (by omega) (by omega)
  exact ⟨h, by rw [← h, Nat.xor_assoc, Nat.xor_self, Nat.xor_zero]⟩
theorem is_neg {x : Nat} {a : Int} (hx : Is x a) : Is (Go.Op.negFloat .f64 x) (-a) := by
  obtain ⟨h, s, r, k, hw, hr, rx, hs⟩ := hx
  obtain ⟨t1, t2⟩ := xor_top r hr
  have e : Go.Op.negFloat .f64 x = double.word (!s) r := by
    show x ^^^ 9223372036854775808 = _
    rw [hw]
    unfold Format.word
    have sw : double.signWeight = 9223372036854775808 := by decide +kernel
    cases s
    · simp only [Bool.false_eq_true, if_false, Bool.not_false, if_true, sw]; exact t1
    · simp only [if_true, Bool.not_true, Bool.false_eq_true, if_false, sw]; exact t2
  refine ⟨by rw [Int.natAbs_neg]; exact h, !s, r, k, e, hr, ?_, fun hn => ?_⟩
  · rw [e, Int.natAbs_neg]
    rw [hw] at rx
    unfold Format.read at rx ⊢
    obtain ⟨a1, a2⟩ := read_word s r hr
    obtain ⟨b1, b2⟩ := read_word (!s) r hr
    rw [a1, a2] at rx
    rw [b1, b2]
    dsimp only at rx ⊢
    by_cases hc : r < double.binade
    · rw [if_pos hc] at rx ⊢; injection rx with x1 x2 x3; rw [x2, x3]
    · rw [if_neg hc] at rx ⊢
      by_cases hd : r < double.infRung
      · rw [if_pos hd] at rx ⊢; injection rx with x1 x2 x3; rw [x2, x3]
      · rw [if_neg hd] at rx
        by_cases he : r = double.infRung
        · rw [if_pos he] at rx; cases rx
        · rw [if_neg he] at rx; cases rx
  · rw [hs (by omega)]
    by_cases h : a < 0 <;> simp [h] <;> omega
end Flt
theorem plane_size.calls (t n l m : Int) (w : World) :
    Calls Try.prog 22 #[.agg #[.int .i64 t, .int .i64 n, .int .i64 l, .int .i64 m]] w fun e w' => e = .returned (.complex .f64 (FloatKind.nearest .f64 l) (FloatKind.nearest .f64 m)) ∧ Below w.heap.size w w' := by
  go_enter Try.func22, Try.ntmps22
  go_wp2
  go_ret
  exact ⟨rfl, below_alloc (Below.refl _ _) _⟩
theorem run_mul (x y z : Nat) (h : Ieee.double.mul x y = some z) : ∀ W : World, (binOp .mul 39 (.float .f64 x) (.float .f64 y)).run Try.prog W = .ok (.float .f64 z) W := fun W => run_float_arith W .mul 39 .f64 x y z h
theorem run_toint (x : Nat) (n : Int) (h : (Ieee.double.read x).toInt .zero = some n) (h0 : -9223372036854775808 ≤ n) (h1 : n ≤ 9223372036854775807) : ∀ W : World, (convert 39 3 (.float .f64 x)).run Try.prog W = .ok (.int .i64 n) W := fun W => by
  refine run_convert_float_int W 39 3 .f64 .i64 x n (by rw [Try.underlying39]; rfl) Try.underlying3 ?_
  unfold floatToIntVal
  show (match (Ieee.double.read x).toInt .zero with | some n => _ | none => _) = _
  rw [h]
  have e0 : IntKind.i64.min = -9223372036854775808 := by decide +kernel
  have e1 : IntKind.i64.max = 9223372036854775807 := by decide +kernel
  simp [e0, e1, h0, h1]
theorem run_csub (a b c d r i : Nat) (h1 : Ieee.double.sub a c = some r) (h2 : Ieee.double.sub b d = some i) : ∀ W : World, (binOp .sub 37 (.complex .f64 a b) (.complex .f64 c d)).run Try.prog W = .ok (.complex .f64 r i) W := fun W => by
  have g1 : FloatKind.f64.format.sub a c = some r := h1
  have g2 : FloatKind.f64.format.sub b d = some i := h2
  simp [binOp, Op.complexOp, Op.Complex.arith, Op.floatArith, g1, g2]
theorem run_neg (x : Nat) (W : World) : (Op.unary .neg (.float .f64 x)).run Try.prog W = .ok (.float .f64 (Op.negFloat .f64 x)) W := rfl
end Go.Proofs.Ytcocaapihhgckaa.PAll
