/- A product of two is the same the other way round and with both signs turned, with one turned it is turned, with 0 it is 0: for all whole numbers of 64 bits; no conditions. -/
import Derived.Test.YtokljfnicijheaaPAllx19
import Derived.Laws.BitsLemmas
set_option linter.unusedVariables false
set_option linter.unusedSimpArgs false
namespace Go.Proofs.Ytokljfnicijheaa.Pure
open Go Go.RowKit Go.Proofs.Ytokljfnicijheaa.PAll Go.Proofs.YtokljfnicijheaaW.PrintWords Go.Proofs.YtokljfnicijheaaW.PrintLast

def fitB (n : Int) : Bool := decide (-1152921504606846976 ≤ n) && decide (n ≤ 1152921504606846976)
theorem fitB_iff (n : Int) : fitB n = true ↔ -1152921504606846976 ≤ n ∧ n ≤ 1152921504606846976 := by simp [fitB]
theorem rd_drop (l : List Int) (i : Nat) (h : i < l.length) : l.drop i = rd l (i : Int) :: l.drop (i + 1) := by
  rw [List.drop_eq_getElem_cons h]; simp [rd, h]
theorem wrap_id (n : Int) (h : -9223372036854775808 ≤ n) (h2 : n < 9223372036854775808) : wrap64 n = n := by unfold wrap64; omega

theorem fits_eq (n : Int) : money_fits.f n = some (fitB n) := by
  unfold money_fits.f fitB
  by_cases h : n ≥ -1152921504606846976
  · rw [if_pos h]; simp [h]
  · rw [if_neg h]; simp [h]

theorem wrap_u64 (n : Int) : IntKind.u64.wrap n = n % 18446744073709551616 := by simp [IntKind.wrap, IntKind.bits, IntKind.signed]
theorem wraps_u64 (n : Int) (h₀ : 0 ≤ n) (h₁ : n < 2 ^ 64) : IntKind.u64.wrap n = n := by rw [wrap_u64]; omega
theorem and_lo (x : Int) (h₀ : 0 ≤ x) (h₁ : x < 18446744073709551616) : Go.bits .and .u64 x 4294967295 = x % 4294967296 :=
  bits_mask .u64 64 (by decide) wraps_u64 32 (by decide) x h₀ (by simpa using h₁)
theorem mul_bd {a b m : Int} (ha : 0 ≤ a) (ha' : a ≤ m) (hb : 0 ≤ b) (hb' : b ≤ m) : 0 ≤ a * b ∧ a * b ≤ m * m :=
  ⟨Int.mul_nonneg ha hb, Int.le_trans (Int.mul_le_mul_of_nonneg_right ha' hb) (Int.mul_le_mul_of_nonneg_left hb' (by omega))⟩
theorem mul64_parts (P Q R S : Int) (hP : 0 ≤ P) (hP' : P ≤ 18446744065119617025) (hQ : 0 ≤ Q) (hQ' : Q ≤ 18446744065119617025) (hR : 0 ≤ R) (hR' : R ≤ 18446744065119617025) (hS : 0 ≤ S) (hS' : S ≤ 18446744065119617025) :
   ((P + ((Q + S / 4294967296) / 4294967296))) + (((Q + S / 4294967296) % 4294967296 + R) / 4294967296) = (P * 18446744073709551616 + (Q + R) * 4294967296 + S) / 18446744073709551616 := by omega
theorem mul64_eq (a b : Int) (ha : 0 ≤ a) (ha' : a < 18446744073709551616) (hb : 0 ≤ b) (hb' : b < 18446744073709551616) :
    bits_Mul64.f a b = some (a * b / 18446744073709551616, a * b % 18446744073709551616) := by
  unfold bits_Mul64.f
  rw [and_lo a ha ha', and_lo b hb hb']
  obtain ⟨p0, p1⟩ := mul_bd (a := a / 4294967296) (b := b / 4294967296) (m := 4294967295) (by omega) (by omega) (by omega) (by omega)
  obtain ⟨q0, q1⟩ := mul_bd (a := a / 4294967296) (b := b % 4294967296) (m := 4294967295) (by omega) (by omega) (by omega) (by omega)
  obtain ⟨r0, r1⟩ := mul_bd (a := a % 4294967296) (b := b / 4294967296) (m := 4294967295) (by omega) (by omega) (by omega) (by omega)
  obtain ⟨s0, s1⟩ := mul_bd (a := a % 4294967296) (b := b % 4294967296) (m := 4294967295) (by omega) (by omega) (by omega) (by omega)
  have e : a * b = (a / 4294967296 * (b / 4294967296)) * 18446744073709551616 + (a / 4294967296 * (b % 4294967296) + a % 4294967296 * (b / 4294967296)) * 4294967296 + a % 4294967296 * (b % 4294967296) := by
    have e1 : a = 4294967296 * (a / 4294967296) + a % 4294967296 := by omega
    have e2 : b = 4294967296 * (b / 4294967296) + b % 4294967296 := by omega
    generalize a / 4294967296 = x at *
    generalize a % 4294967296 = y at *
    generalize b / 4294967296 = z at *
    generalize b % 4294967296 = t at *
    subst e1 e2
    simp only [Int.add_mul, Int.mul_add]
    have h1 : 4294967296 * x * (4294967296 * z) = x * z * 18446744073709551616 := by
      rw [show (4294967296 : Int) * x * (4294967296 * z) = (4294967296 * 4294967296) * (x * z) by rw [Int.mul_assoc, Int.mul_left_comm x, ← Int.mul_assoc]]; omega
    have h2 : 4294967296 * x * t = x * t * 4294967296 := by rw [Int.mul_assoc, Int.mul_comm]
    have h3 : y * (4294967296 * z) = y * z * 4294967296 := by rw [Int.mul_left_comm, Int.mul_comm]
    omega
  have k := mul64_parts _ _ _ _ p0 p1 q0 q1 r0 r1 s0 s1
  rw [← e] at k
  have hab : 0 ≤ a * b := Int.mul_nonneg ha hb
  generalize a / 4294967296 * (b / 4294967296) = P at *
  generalize a / 4294967296 * (b % 4294967296) = Q at *
  generalize a % 4294967296 * (b / 4294967296) = R at *
  generalize a % 4294967296 * (b % 4294967296) = S at *
  simp only [wrap_u64]
  have hS2 : S % 18446744073709551616 = S := by omega
  have hQ2 : Q % 18446744073709551616 = Q := by omega
  have hP2 : P % 18446744073709551616 = P := by omega
  have hR2 : R % 18446744073709551616 = R := by omega
  rw [hS2, hQ2, hP2, hR2]
  have ht : (Q + S / 4294967296) % 18446744073709551616 = Q + S / 4294967296 := by omega
  rw [ht]
  have hm : Go.bits .and .u64 (Q + S / 4294967296) 4294967295 = (Q + S / 4294967296) % 4294967296 := and_lo _ (by omega) (by omega)
  rw [hm]
  have hw : ((Q + S / 4294967296) % 4294967296 + R) % 18446744073709551616 = (Q + S / 4294967296) % 4294967296 + R := by omega
  rw [hw, ← k]
  congr 2
  omega

def mulS : Int → List Int → Int × Int
  | p, [] => (p, 0)
  | p, x :: xs => if fitB x && fitB (p * x) then mulS (p * x) xs else (0, 2)
theorem mulS_fit : ∀ (l : List Int) (p : Int), fitB p = true → fitB (mulS p l).1 = true
  | [], p, h => h
  | x :: xs, p, h => by
    unfold mulS
    split
    · rename_i h2; simp only [Bool.and_eq_true] at h2; exact mulS_fit xs _ h2.2
    · decide
theorem mulS_nonneg : ∀ (l : List Int) (p : Int), 0 ≤ p → (∀ x ∈ l, 0 ≤ x) → 0 ≤ (mulS p l).1
  | [], p, h, _ => h
  | x :: xs, p, h, hx => by
    unfold mulS
    split
    · exact mulS_nonneg xs _ (Int.mul_nonneg h (hx x (by simp))) (fun y hy => hx y (by simp [hy]))
    · simp

theorem size_eq (a : Int) (h : fitB a = true) : money_size.f a = some (if a < 0 then -a else a) := by
  have h' := (fitB_iff _).1 h
  unfold money_size.f
  simp only [wrap_u64]
  split <;> congr 1 <;> omega
theorem times_eq (k : Nat) (a b : Int) (ha : fitB a = true) (hb : fitB b = true) : money_times.f (k + 1) a b = some (if fitB (a * b) then (a * b, true) else (0, false)) := by
  have ha' := (fitB_iff _).1 ha
  have hb' := (fitB_iff _).1 hb
  unfold money_times.f
  rw [size_eq a ha, size_eq b hb]
  simp only [Option.bind_some]
  rw [mul64_eq _ _ (by split <;> omega) (by split <;> omega) (by split <;> omega) (by split <;> omega)]
  simp only [Option.bind_some, money_times.j0]
  obtain ⟨m0, m1⟩ := mul_bd (a := if a < 0 then -a else a) (b := if b < 0 then -b else b) (m := 1152921504606846976) (by split <;> omega) (by split <;> omega) (by split <;> omega) (by split <;> omega)
  have hp : a * b = if decide (a < 0) != decide (b < 0) then -((if a < 0 then -a else a) * (if b < 0 then -b else b)) else ((if a < 0 then -a else a) * (if b < 0 then -b else b)) := by
    by_cases h1 : a < 0 <;> by_cases h2 : b < 0 <;> simp [h1, h2, Int.neg_mul, Int.mul_neg]
  generalize (if a < 0 then -a else a) * (if b < 0 then -b else b) = q at *
  by_cases hq : q ≤ 1152921504606846976
  · have e1 : q / 18446744073709551616 = 0 := by omega
    have e2 : q % 18446744073709551616 = q := by omega
    rw [e1, e2, if_neg (by omega), if_neg (by simp; omega), wrap_id q (by omega) (by omega), wrap_id (-q) (by omega) (by omega)]
    rw [hp]
    by_cases hs : (decide (a < 0) != decide (b < 0)) = true
    · rw [if_pos hs, if_pos hs, if_pos (by rw [fitB_iff]; omega)]
    · rw [if_neg hs, if_neg hs, if_pos (by rw [fitB_iff]; omega)]
  · have hf : ¬ (fitB (a * b) = true) := by
      rw [fitB_iff, hp]
      split <;> omega
    rw [if_neg hf]
    by_cases h : q / 18446744073709551616 > 0
    · rw [if_pos h]; simp
    · rw [if_neg h, if_pos (by simp; omega)]
theorem mul_l0 (l : List Int) (hl : l.length < 9223372036854775807) (d : Nat) : ∀ (k i : Nat) (s : Int), l.length - i = d → i ≤ l.length → d + 1 < k → fitB s = true →
    money_Mul.l0 k s l (l.length : Int) (i : Int) = some (mulS s (l.drop i)) := by
  induction d with
  | zero =>
    intro k i s hd hi hk hs
    obtain ⟨k, rfl⟩ : ∃ m, k = m + 1 := ⟨k - 1, by omega⟩
    have : i = l.length := by omega
    subst this
    simp only [money_Mul.l0]
    rw [if_neg (by omega)]; simp [mulS]
  | succ d ih =>
    intro k i s hd hi hk hs
    obtain ⟨k, rfl⟩ : ∃ m, k = m + 1 + 1 := ⟨k - 2, by omega⟩
    rw [money_Mul.l0]
    rw [if_pos (by omega), if_pos (by omega), if_pos (by omega), rd_drop l i (by omega), fits_eq]
    simp only [Option.bind_some, mulS]
    by_cases h1 : fitB (rd l i) = true
    · rw [if_pos h1, times_eq k s _ hs h1]
      simp only [h1, Bool.true_and, Option.bind_some]
      by_cases h2 : fitB (s * rd l i) = true
      · rw [if_pos h2, if_pos h2, if_pos rfl, wrap_id (↑i + 1) (by omega) (by omega)]
        exact ih (k + 1) (i + 1) _ (by omega) (by omega) (by omega) h2
      · rw [if_neg h2, if_neg h2]; simp
    · rw [if_neg h1]
      simp [h1]
theorem mul_eq (l : List Int) (hl : l.length < 9223372036854775807) (k : Nat) (hk : l.length + 1 < k) : money_Mul.f k l = some (mulS 1 l) := by
  have := mul_l0 l hl l.length k 0 1 (by omega) (by omega) hk (by decide)
  simpa [money_Mul.f] using this

theorem mulS_two (a b : Int) : mulS 1 [a, b] = if fitB a && fitB b && fitB (a * b) then (a * b, 0) else (0, 2) := by
  simp only [mulS, Int.one_mul]
  cases fitB a <;> cases fitB b <;> cases fitB (a * b) <;> rfl
theorem fitB_neg (a : Int) : fitB (-a) = fitB a := by
  rw [Bool.eq_iff_iff, fitB_iff, fitB_iff]; omega

theorem awake_8 : prebendlaw01_awake.f 8 = some true := by decide +kernel
theorem MoneyTurned : prebendlaw01_MoneyTurned.Pure := by
  intro a b ha hb
  refine ⟨9, ?_⟩
  unfold prebendlaw01_MoneyTurned.f
  rw [mul_eq [a, b] (by simp) 9 (by simp), mul_eq [b, a] (by simp) 9 (by simp), mulS_two, mulS_two b a, Int.mul_comm b a, Bool.and_comm (fitB b) (fitB a)]
  simp only [Option.bind_some, if_true]
  rw [prebendlaw01_MoneyTurned.j0]
  simp only [bne_self_eq_false]
  rw [if_neg (by simp), awake_8]
  by_cases h : (fitB a && fitB b && fitB (a * b)) = true
  · rw [if_pos h]
    simp only [Bool.and_eq_true] at h
    obtain ⟨⟨h1, h2⟩, h3⟩ := h
    have g1 := (fitB_iff _).1 h1
    have g2 := (fitB_iff _).1 h2
    have g3 := (fitB_iff _).1 h3
    rw [wrap_id (-a) (by omega) (by omega), wrap_id (-b) (by omega) (by omega), wrap_id (-(a * b)) (by omega) (by omega)]
    rw [mul_eq [-a, b] (by simp) 8 (by simp), mul_eq [-a, -b] (by simp) 8 (by simp), mul_eq [a, 0] (by simp) 8 (by simp), mulS_two, mulS_two, mulS_two, Int.neg_mul_neg, Int.neg_mul, fitB_neg, fitB_neg, fitB_neg, h1, h2, h3, Int.mul_zero]
    have e : fitB 0 = true := by decide
    simp [e, g3]
  · rw [if_neg h]; simp

end Go.Proofs.Ytokljfnicijheaa.Pure
