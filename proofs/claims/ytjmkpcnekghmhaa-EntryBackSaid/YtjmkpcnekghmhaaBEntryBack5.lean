/- A transaction comes back of its bytes, and bytes that are decoded are its own: for all that a call may be handed; no conditions. -/
import Derived.Test.YtjmkpcnekghmhaaBEntryBack4
import Derived.Deep.Slices
import Derived.Deep.Fields
import Derived.ChangeSame
import Derived.ChangeArms
import Derived.OpenShut
import Derived.Test.YtjmkpcnekghmhaaRows
import Derived.ProofKit
import Derived.ShutString
import Derived.ChangeOld
import Derived.Carry
section
set_option linter.unusedVariables false
set_option linter.unusedSimpArgs false
namespace Go.Proofs.Ytjmkpcnekghmhaa.Pure
open Go Go.RowKit Go.Proofs.Ytjmkpcnekghmhaa.PAll Go.Proofs.YtjmkpcnekghmhaaW.PrintWords Go.Proofs.YtjmkpcnekghmhaaW.PrintLast

/-- A number's bytes, the highest first. -/
def beN : Nat → Int → List Int
  | 0, _ => []
  | d + 1, v => (v / 2 ^ (8 * d) % 256) :: beN d v
theorem beN_len (v : Int) : ∀ d, (beN d v).length = d
  | 0 => rfl
  | d + 1 => by simp [beN, beN_len v d]
def flat8 (l : List Int) : List Int := (l.map (beN 8)).flatten
theorem flat8_len (l : List Int) : (flat8 l).length = 8 * l.length := by
  induction l with
  | nil => rfl
  | cons x l ih => simp only [flat8, List.map_cons, List.flatten_cons, List.length_append, beN_len, List.length_cons] at ih ⊢; omega
theorem flat8_cons (x : Int) (l : List Int) : flat8 (x :: l) = beN 8 x ++ flat8 l := rfl
theorem ints_in (v : Int) (L : List Int) (n10 nL : Int) : ∀ (d k : Nat) (x0 : List Int), d ≤ 8 → x0.length + d < 1000000 → entry_ints.l1 (k + d + 1) x0 v ((d : Int) - 1) L nL n10 = entry_ints.l0 k (x0 ++ beN d v) L nL (wrap64 (n10 + 1))
  | 0, k, x0, _, _ => by
    rw [entry_ints.l1.eq_2, if_neg (by simp)]; simp [beN]
  | d + 1, k, x0, h, hl => by
    have e1 : wrap64 (8 * (((d + 1 : Nat) : Int) - 1)) = ((8 * d : Nat) : Int) := by unfold wrap64; omega
    have e2 : wrap64 ((((d + 1 : Nat) : Int) - 1) - 1) = (d : Int) - 1 := by unfold wrap64; omega
    have e3 : shr .i64 v ((8 * d : Nat) : Int) = v / 2 ^ (8 * d) := by
      have := shr_small (rfl : shr .i64 v ((8 * d : Nat) : Int) = shr .i64 v ((8 * d : Nat) : Int)) (by show ((8 * d : Nat) : Int) ≤ 64; omega)
      rw [Int.toNat_natCast] at this
      exact this.symm
    rw [show k + (d + 1) + 1 = (k + d + 1) + 1 by omega, entry_ints.l1.eq_2, if_pos (by omega), e1, e2, if_pos (by omega), if_pos (by omega), e3, ints_in v L n10 nL d k _ (by omega) (by simp; omega)]
    simp [beN]
theorem ints_out (L : List Int) (hL : L.length < 10000) : ∀ (n j k : Nat) (x0 : List Int), j + n = L.length → x0.length + 8 * n < 900000 → entry_ints.l0 (k + 10 * n + 1) x0 L (L.length : Int) (j : Int) = some (x0 ++ flat8 (L.drop j))
  | 0, j, k, x0, h, _ => by
    rw [Nat.mul_zero, Nat.add_zero, entry_ints.l0.eq_2, if_neg (by omega), List.drop_eq_nil_of_le (by omega)]; simp [flat8]
  | n + 1, j, k, x0, h, hl => by
    have hlt : j < L.length := by omega
    have hr : rd L (j : Int) = L[j] := by simp [rd, List.getD_eq_getElem?_getD, hlt]
    have e : wrap64 ((j : Int) + 1) = ((j + 1 : Nat) : Int) := by unfold wrap64; omega
    rw [show k + 10 * (n + 1) + 1 = ((k + 10 * n + 1) + 8 + 1) + 1 by omega, entry_ints.l0.eq_2, if_pos (by omega), if_pos (by omega), if_pos (by omega)]
    have := ints_in (rd L (j : Int)) L (j : Int) (L.length : Int) 8 (k + 10 * n + 1) x0 (by omega) (by omega)
    rw [show (7 : Int) = ((8 : Nat) : Int) - 1 by omega, this, e, ints_out L hL n (j + 1) k _ (by omega) (by rw [List.length_append, beN_len]; omega), hr, List.drop_eq_getElem_cons hlt, flat8_cons, List.append_assoc]
theorem ints_f (K : Nat) (x0 L : List Int) (hL : L.length ≤ 8) (hx : x0.length < 100000) (hK : 81 ≤ K) : entry_ints.f K x0 L = some (x0 ++ flat8 L) := by
  obtain ⟨k, rfl⟩ : ∃ k, K = k + 10 * L.length + 1 := ⟨K - 10 * L.length - 1, by omega⟩
  exact ints_out L (by omega) L.length 0 k x0 (by omega) (by omega)
theorem word_f (l : List Int) (s : ByteArray) (hl : l.length < 1000000) (hs : s.size ≤ 16) : entry_word.f l s = some (l ++ (beN 2 (s.size : Int) ++ bytesOf s)) := by
  unfold entry_word.f
  rw [if_pos ⟨by omega, by omega⟩]
  have : beN 2 (s.size : Int) = [0, (s.size : Int) % 256] := by
    show [(s.size : Int) / 2 ^ (8 * 1) % 256, (s.size : Int) / 2 ^ (8 * 0) % 256] = _
    rw [show (s.size : Int) / 2 ^ (8 * 1) % 256 = 0 by show (s.size : Int) / 256 % 256 = 0; omega, show (s.size : Int) / 2 ^ (8 * 0) % 256 = (s.size : Int) % 256 by show (s.size : Int) / 1 % 256 = _; omega]
  rw [this]; simp

def wd (s : ByteArray) : List Int := beN 2 (s.size : Int) ++ bytesOf s
def flatL (l : List S87) : List Int := (l.map fun x => flat8 [x.f0, x.f1]).flatten
def encS (a0 a1 a2 : Int) (a3 a4 : ByteArray) (l5 : List Int) (l6 : List S87) : List Int :=
  ((((([] ++ flat8 [a0, a1, a2]) ++ wd a3) ++ wd a4) ++ flat8 [(l5.length : Int)]) ++ flat8 l5) ++ flat8 [(l6.length : Int)] ++ flatL l6
theorem wd_len (s : ByteArray) : (wd s).length = 2 + s.size := by simp [wd, beN_len, bytesOf_length]
theorem flatL_cons (x : S87) (l : List S87) : flatL (x :: l) = flat8 [x.f0, x.f1] ++ flatL l := rfl
theorem enc_legs (L : List S87) (hL : L.length ≤ 64) : ∀ (n j K : Nat) (x4 : List Int), j + n = L.length → x4.length + 16 * n < 50000 → n + 90 ≤ K → entry_Encode.l0 K x4 L (L.length : Int) (j : Int) = some (x4 ++ flatL (L.drop j), 0)
  | 0, j, K, x4, h, _, hK => by
    obtain ⟨k, rfl⟩ : ∃ k, K = k + 1 := ⟨K - 1, by omega⟩
    rw [entry_Encode.l0.eq_2, if_neg (by omega), List.drop_eq_nil_of_le (by omega)]
    simp [slices_Clip_byte.f, flatL]
  | n + 1, j, K, x4, h, hl, hK => by
    obtain ⟨k, rfl⟩ : ∃ k, K = k + 1 := ⟨K - 1, by omega⟩
    have hlt : j < L.length := by omega
    have hr : rd_T87 L (j : Int) = L[j] := by simp [rd_T87, List.getD_eq_getElem?_getD, hlt]
    have e : wrap64 ((j : Int) + 1) = ((j + 1 : Nat) : Int) := by unfold wrap64; omega
    rw [entry_Encode.l0.eq_2, if_pos (by omega), if_pos (by omega), if_pos (by omega), hr, ints_f k x4 _ (by simp) (by omega) (by omega), Option.bind_some, e,
      enc_legs L hL n (j + 1) k _ (by omega) (by rw [List.length_append, flat8_len]; simp; omega) (by omega), List.drop_eq_getElem_cons hlt, flatL_cons, List.append_assoc]
theorem enc_ok (K : Nat) (a0 a1 a2 : Int) (a3 a4 : ByteArray) (l5 : List Int) (l6 : List S87) (h : a3.size ≤ 16 ∧ a4.size ≤ 16 ∧ l5.length ≤ 8 ∧ l6.length ≤ 64) (hK : 200 ≤ K) : entry_Encode.f K a0 a1 a2 a3 a4 l5 l6 = some (encS a0 a1 a2 a3 a4 l5 l6, 0) := by
  obtain ⟨h3, h4, h5, h6⟩ := h
  obtain ⟨k, rfl⟩ : ∃ k, K = k + 1 := ⟨K - 1, by omega⟩
  unfold entry_Encode.f
  rw [if_neg (by unfold mx; split <;> omega), if_neg (by omega), entry_Encode.j0.eq_2, if_neg (by simp; omega)]
  have e0 : ([] : List Int).length = 0 := rfl
  have w3 := wd_len a3
  have w4 := wd_len a4
  rw [ints_f k [] [a0, a1, a2] (by simp) (by simp) (by omega), Option.bind_some]
  have q1 : ([] ++ flat8 [a0, a1, a2]).length = 24 := by rw [List.length_append, flat8_len]; rfl
  rw [word_f _ a3 (by omega) h3, Option.bind_some]
  have q2 : (([] ++ flat8 [a0, a1, a2]) ++ wd a3).length = 26 + a3.size := by rw [List.length_append, q1, w3]; omega
  change (entry_word.f (([] ++ flat8 [a0, a1, a2]) ++ wd a3) a4).bind _ = _
  rw [word_f _ a4 (by omega) h4, Option.bind_some]
  have q3 : ((([] ++ flat8 [a0, a1, a2]) ++ wd a3) ++ wd a4).length = 28 + a3.size + a4.size := by rw [List.length_append, q2, w4]; omega
  change (entry_ints.f k ((([] ++ flat8 [a0, a1, a2]) ++ wd a3) ++ wd a4) [(l5.length : Int)]).bind _ = _
  obtain ⟨E3, hE3⟩ : ∃ E3, ((([] ++ flat8 [a0, a1, a2]) ++ wd a3) ++ wd a4) = E3 := ⟨_, rfl⟩
  rw [hE3] at q3 ⊢
  rw [ints_f k E3 [(l5.length : Int)] (by simp) (by omega) (by omega), Option.bind_some]
  obtain ⟨E4, hE4⟩ : ∃ E4, E3 ++ flat8 [(l5.length : Int)] = E4 := ⟨_, rfl⟩
  have q4 : E4.length = E3.length + 8 := by rw [← hE4, List.length_append, flat8_len]; simp
  rw [hE4, ints_f k E4 l5 h5 (by omega) (by omega), Option.bind_some]
  obtain ⟨E5, hE5⟩ : ∃ E5, E4 ++ flat8 l5 = E5 := ⟨_, rfl⟩
  have q5 : E5.length = E4.length + 8 * l5.length := by rw [← hE5, List.length_append, flat8_len]
  rw [hE5, ints_f k E5 [(l6.length : Int)] (by simp) (by omega) (by omega), Option.bind_some]
  obtain ⟨E6, hE6⟩ : ∃ E6, E5 ++ flat8 [(l6.length : Int)] = E6 := ⟨_, rfl⟩
  have q6 : E6.length = E5.length + 8 := by rw [← hE6, List.length_append, flat8_len]; simp
  rw [hE6]
  have hL := enc_legs l6 h6 l6.length 0 k E6 (by omega) (by omega) (by omega)
  rw [show ((0 : Nat) : Int) = 0 from rfl] at hL
  rw [hL, List.drop_zero, ← hE6, ← hE5, ← hE4, ← hE3]
  rfl
theorem enc_bad (K : Nat) (a0 a1 a2 : Int) (a3 a4 : ByteArray) (l5 : List Int) (l6 : List S87) (h : ¬ (a3.size ≤ 16 ∧ a4.size ≤ 16 ∧ l5.length ≤ 8 ∧ l6.length ≤ 64)) (hK : 200 ≤ K) : entry_Encode.f K a0 a1 a2 a3 a4 l5 l6 = some ([], 3) := by
  obtain ⟨k, rfl⟩ : ∃ k, K = k + 1 := ⟨K - 1, by omega⟩
  have hj : ∀ b, b = true → entry_Encode.j0 (k + 1) b a0 a1 a2 a3 a4 l5 l6 = some ([], 3) := fun b hb => by rw [entry_Encode.j0.eq_2, if_pos hb]
  unfold entry_Encode.f
  by_cases c1 : mx (a3.size : Int) (a4.size : Int) > 16
  · rw [if_pos c1]; exact hj _ rfl
  · rw [if_neg c1]
    by_cases c2 : (l5.length : Int) > 8
    · rw [if_pos c2]; exact hj _ rfl
    · rw [if_neg c2]
      refine hj _ (decide_eq_true ?_)
      unfold mx at c1
      split at c1 <;> omega

theorem horner (v : Int) : ∀ (d : Nat) (a : Int), d ≤ 8 → numS (beN d v) a = wrap64 (a * 2 ^ (8 * d) + v % 2 ^ (8 * d)) ∨ d = 0
  | 0, a, _ => .inr rfl
  | d + 1, a, h => by
    refine .inl ?_
    have hc : 0 ≤ v / 2 ^ (8 * d) % 256 ∧ v / 2 ^ (8 * d) % 256 ≤ 255 := by omega
    simp only [beN, numS]
    rw [or_byte _ _ hc.1 (by omega)]
    rcases horner v d (wrap64 (a * 256 + v / 2 ^ (8 * d) % 256)) (by omega) with e | rfl
    · rw [e]
      have hd : d = 0 ∨ d = 1 ∨ d = 2 ∨ d = 3 ∨ d = 4 ∨ d = 5 ∨ d = 6 ∨ d = 7 := by omega
      rcases hd with rfl | rfl | rfl | rfl | rfl | rfl | rfl | rfl <;> simp only [Nat.reduceMul, Nat.reduceAdd, Int.reducePow] <;> unfold wrap64 <;> omega
    · simp only [beN, numS, Nat.reduceMul, Nat.reduceAdd, Int.reducePow]; unfold wrap64; omega
def W64 (v : Int) : Prop := -9223372036854775808 ≤ v ∧ v ≤ 9223372036854775807
theorem num_be8 (v : Int) (h : W64 v) : numS (beN 8 v) 0 = v := by
  unfold W64 at h
  rcases horner v 8 0 (by omega) with e | e
  · rw [e]; simp only [Nat.reduceMul, Int.reducePow]; unfold wrap64; omega
  · cases e
theorem num_be2 (v : Int) (h : 0 ≤ v ∧ v ≤ 65535) : numS (beN 2 v) 0 = v := by
  rcases horner v 2 0 (by omega) with e | e
  · rw [e]; simp only [Nat.reduceMul, Int.reducePow]; unfold wrap64; omega
  · cases e
theorem rInt_be (v : Int) (r : List Int) (h : W64 v) : rInt (beN 8 v ++ r, false) = (v, (r, false)) := by
  unfold rInt
  rw [if_neg (by simp [beN_len])]
  simp only
  rw [List.take_left' (beN_len _ _), List.drop_left' (beN_len _ _), num_be8 _ h]
theorem rText_wd (s : ByteArray) (r : List Int) (h : s.size ≤ 16) : rText (wd s ++ r, false) 16 = (bytesOf s, (r, false)) := by
  unfold rText wd
  rw [List.append_assoc, if_neg (by simp [beN_len])]
  simp only
  rw [List.take_left' (beN_len _ _), List.drop_left' (beN_len _ _), num_be2 _ (by omega), if_neg (by simp [beN_len, bytesOf_length]; omega)]
  simp only [Int.toNat_natCast]
  rw [List.take_left' (bytesOf_length _), List.drop_left' (bytesOf_length _)]
theorem strOfNums_bytesOf (s : ByteArray) : strOfNums (bytesOf s) = s := by
  unfold strOfNums bytesOf
  rw [List.map_map]
  have : (s.data.toList.map ((fun n : Int => UInt8.ofNat n.toNat) ∘ fun b : UInt8 => (b.toNat : Int))) = s.data.toList := by
    rw [List.map_congr_left (g := id) (fun b _ => by simp [Function.comp])]
    simp
  rw [this]
theorem args_be : ∀ (L : List Int) (r out : List Int), (∀ x ∈ L, W64 x) → dec_args L.length (flat8 L ++ r, false) out = (out ++ L, (r, false))
  | [], r, out, _ => by simp [dec_args, flat8]
  | x :: L, r, out, h => by
    rw [flat8_cons, List.append_assoc, List.length_cons, dec_args, rInt_be x _ (h x (List.mem_cons_self ..)), args_be L r _ (fun y hy => h y (List.mem_cons_of_mem _ hy))]
    simp
theorem legs_be : ∀ (L : List S87) (r : List Int) (out : List S87), (∀ x ∈ L, W64 x.f0 ∧ W64 x.f1) → dec_legs L.length (flatL L ++ r, false) out = (out ++ L, (r, false))
  | [], r, out, _ => by simp [dec_legs, flatL]
  | x :: L, r, out, h => by
    have hx := h x (List.mem_cons_self ..)
    have e : flatL (x :: L) ++ r = beN 8 x.f0 ++ (beN 8 x.f1 ++ (flatL L ++ r)) := by rw [flatL_cons]; simp [flat8]
    rw [e, List.length_cons, dec_legs, rInt_be _ _ hx.1, rInt_be _ _ hx.2, legs_be L r _ (fun y hy => h y (List.mem_cons_of_mem _ hy))]
    simp
theorem dec_enc (a0 a1 a2 : Int) (a3 a4 : ByteArray) (l5 : List Int) (l6 : List S87) (h : a3.size ≤ 16 ∧ a4.size ≤ 16 ∧ l5.length ≤ 8 ∧ l6.length ≤ 64) (w0 : W64 a0) (w1 : W64 a1) (w2 : W64 a2) (w5 : ∀ x ∈ l5, W64 x) (w6 : ∀ x ∈ l6, W64 x.f0 ∧ W64 x.f1) : decF (encS a0 a1 a2 a3 a4 l5 l6) = (a0, a1, a2, a3, a4, l5, l6, 0) := by
  have e : encS a0 a1 a2 a3 a4 l5 l6 = beN 8 a0 ++ (beN 8 a1 ++ (beN 8 a2 ++ (wd a3 ++ (wd a4 ++ (beN 8 (l5.length : Int) ++ (flat8 l5 ++ (beN 8 (l6.length : Int) ++ (flatL l6 ++ [])))))))) := by
    unfold encS; simp [flat8, List.append_assoc]
  have wl5 : W64 (l5.length : Int) := by unfold W64; omega
  have wl6 : W64 (l6.length : Int) := by unfold W64; omega
  rw [e]
  unfold decF
  simp only [rInt_be _ _ w0, rInt_be _ _ w1, rInt_be _ _ w2, rText_wd _ _ h.1, rText_wd _ _ h.2.1, rInt_be _ _ wl5]
  rw [if_pos (by omega), Int.toNat_natCast, args_be _ _ _ w5]
  unfold decT
  simp only [rInt_be _ _ wl6]
  rw [if_pos (by omega), Int.toNat_natCast, legs_be _ _ _ w6]
  unfold decU
  rw [if_pos (by rfl)]
  simp only [strOfNums_bytesOf, List.nil_append]

theorem tl_iff (a b : ByteArray) : a.toList = b.toList ↔ a = b := by
  constructor
  · intro h
    rw [Go.ByteArray.toList_eq, Go.ByteArray.toList_eq] at h
    exact ByteArray.ext (Array.toList_inj.mp h)
  · rintro rfl; rfl
theorem drop_iff {α : Type} {l m : List α} {j : Nat} (h1 : j < l.length) (h2 : j < m.length) : l.drop j = m.drop j ↔ l[j] = m[j] ∧ l.drop (j + 1) = m.drop (j + 1) := by
  rw [List.drop_eq_getElem_cons h1, List.drop_eq_getElem_cons h2, List.cons.injEq]
theorem S87_iff (x y : S87) : x = y ↔ x.f0 = y.f0 ∧ x.f1 = y.f1 := by
  cases x; cases y; simp
theorem same_l1 (a0 a1 a2 : Int) (a3 a4 : ByteArray) (l5 : List Int) (l6 : List S87) (b0 b1 b2 : Int) (b3 b4 : ByteArray) (m5 : List Int) (m6 : List S87) (he : l6.length = m6.length) (hL : l6.length < 100000) : ∀ (n j K : Nat), j + n = l6.length → n + 1 ≤ K → ∃ b, prebendref12_Same.l1 K (j : Int) a0 a1 a2 a3 a4 l5 l6 b0 b1 b2 b3 b4 m5 m6 = some b ∧ (b = true ↔ l6.drop j = m6.drop j)
  | 0, j, K, h, hK => by
    obtain ⟨k, rfl⟩ : ∃ k, K = k + 1 := ⟨K - 1, by omega⟩
    refine ⟨true, by rw [prebendref12_Same.l1.eq_2, if_neg (by omega)], ?_⟩
    rw [List.drop_eq_nil_of_le (by omega), List.drop_eq_nil_of_le (by omega)]; simp
  | n + 1, j, K, h, hK => by
    obtain ⟨k, rfl⟩ : ∃ k, K = k + 1 := ⟨K - 1, by omega⟩
    have h1 : j < l6.length := by omega
    have h2 : j < m6.length := by omega
    have r1 : rd_T87 l6 (j : Int) = l6[j] := by simp [rd_T87, List.getD_eq_getElem?_getD, h1]
    have r2 : rd_T87 m6 (j : Int) = m6[j] := by simp [rd_T87, List.getD_eq_getElem?_getD, h2]
    have e : wrap64 ((j : Int) + 1) = ((j + 1 : Nat) : Int) := by unfold wrap64; omega
    rw [prebendref12_Same.l1.eq_2, if_pos (by omega), if_pos (by omega), if_pos (by omega), r1, r2, e]
    by_cases hc : l6[j].f0 = m6[j].f0 ∧ l6[j].f1 = m6[j].f1
    · obtain ⟨b, hb, hi⟩ := same_l1 a0 a1 a2 a3 a4 l5 l6 b0 b1 b2 b3 b4 m5 m6 he hL n (j + 1) k (by omega) (by omega)
      refine ⟨b, by rw [if_neg (by simp [hc.1, hc.2])]; exact hb, ?_⟩
      rw [hi, drop_iff h1 h2, S87_iff]
      exact ⟨fun h => ⟨hc, h⟩, fun h => h.2⟩
    · refine ⟨false, ?_, ?_⟩
      · rw [if_pos]
        by_cases q : l6[j].f0 = m6[j].f0
        · have : l6[j].f1 ≠ m6[j].f1 := fun q2 => hc ⟨q, q2⟩
          simp [q, this]
        · simp [q]
      · rw [drop_iff h1 h2, S87_iff]
        exact ⟨fun h => by simp at h, fun h => (hc h.1).elim⟩
theorem same_l0 (a0 a1 a2 : Int) (a3 a4 : ByteArray) (l5 : List Int) (l6 : List S87) (b0 b1 b2 : Int) (b3 b4 : ByteArray) (m5 : List Int) (m6 : List S87) (he5 : l5.length = m5.length) (he : l6.length = m6.length) (hL5 : l5.length < 100000) (hL : l6.length < 100000) : ∀ (n j K : Nat), j + n = l5.length → n + l6.length + 2 ≤ K → ∃ b, prebendref12_Same.l0 K (j : Int) a0 a1 a2 a3 a4 l5 l6 b0 b1 b2 b3 b4 m5 m6 = some b ∧ (b = true ↔ (l5.drop j = m5.drop j ∧ l6 = m6))
  | 0, j, K, h, hK => by
    obtain ⟨k, rfl⟩ : ∃ k, K = k + 1 := ⟨K - 1, by omega⟩
    obtain ⟨b, hb, hi⟩ := same_l1 a0 a1 a2 a3 a4 l5 l6 b0 b1 b2 b3 b4 m5 m6 he hL l6.length 0 k (by omega) (by omega)
    rw [show ((0 : Nat) : Int) = 0 from rfl] at hb
    refine ⟨b, by rw [prebendref12_Same.l0.eq_2, if_neg (by omega)]; exact hb, ?_⟩
    rw [hi, List.drop_zero, List.drop_zero, List.drop_eq_nil_of_le (by omega), List.drop_eq_nil_of_le (by omega)]; simp
  | n + 1, j, K, h, hK => by
    obtain ⟨k, rfl⟩ : ∃ k, K = k + 1 := ⟨K - 1, by omega⟩
    have h1 : j < l5.length := by omega
    have h2 : j < m5.length := by omega
    have p1 : (j : Int) < (l5.length : Int) := by omega
    have p2 : 0 ≤ (j : Int) := by omega
    have p3 : (j : Int) < (m5.length : Int) := by omega
    have p4 : (j + 1) + n = l5.length := by omega
    have p5 : n + l6.length + 2 ≤ k := by omega
    have r1 : rd l5 (j : Int) = l5[j] := by simp [rd, List.getD_eq_getElem?_getD, h1]
    have r2 : rd m5 (j : Int) = m5[j] := by simp [rd, List.getD_eq_getElem?_getD, h2]
    have e : wrap64 ((j : Int) + 1) = ((j + 1 : Nat) : Int) := by unfold wrap64; omega
    rw [prebendref12_Same.l0.eq_2, if_pos p1, if_pos p2, if_pos p3, r1, r2, e]
    by_cases hc : l5[j] = m5[j]
    · obtain ⟨b, hb, hi⟩ := same_l0 a0 a1 a2 a3 a4 l5 l6 b0 b1 b2 b3 b4 m5 m6 he5 he hL5 hL n (j + 1) k p4 p5
      refine ⟨b, by rw [if_pos hc]; exact hb, ?_⟩
      rw [hi, drop_iff h1 h2]
      exact ⟨fun h => ⟨⟨hc, h.1⟩, h.2⟩, fun h => ⟨h.1.2, h.2⟩⟩
    · refine ⟨false, by rw [if_neg hc], ?_⟩
      rw [drop_iff h1 h2]
      exact ⟨fun h => by simp at h, fun h => (hc h.1.1).elim⟩
theorem same_f (K : Nat) (a0 a1 a2 : Int) (a3 a4 : ByteArray) (l5 : List Int) (l6 : List S87) (b0 b1 b2 : Int) (b3 b4 : ByteArray) (m5 : List Int) (m6 : List S87) (h5 : l5.length ≤ 8) (h6 : l6.length ≤ 64) (hK : 100 ≤ K) : ∃ b, prebendref12_Same.f K a0 a1 a2 a3 a4 l5 l6 b0 b1 b2 b3 b4 m5 m6 = some b ∧ (b = true ↔ (a0, a1, a2, a3, a4, l5, l6) = (b0, b1, b2, b3, b4, m5, m6)) := by
  obtain ⟨k, rfl⟩ : ∃ k, K = k + 1 := ⟨K - 1, by omega⟩
  have hT : ∀ c, c = true → prebendref12_Same.j0 (k + 1) c a0 a1 a2 a3 a4 l5 l6 b0 b1 b2 b3 b4 m5 m6 = some false := fun c hc => by rw [prebendref12_Same.j0.eq_2, if_pos hc]
  unfold prebendref12_Same.f
  simp only [Prod.mk.injEq]
  by_cases c0 : a0 = b0
  · rw [if_pos c0]
    by_cases c1 : a1 = b1
    · rw [if_pos c1]
      by_cases c2 : a2 = b2
      · rw [if_pos c2]
        by_cases c3 : a3 = b3
        · rw [if_pos ((tl_iff _ _).2 c3)]
          by_cases c4 : a4 = b4
          · rw [if_pos ((tl_iff _ _).2 c4)]
            by_cases c5 : (l5.length : Int) = (m5.length : Int)
            · rw [if_pos c5]
              by_cases c6 : (l6.length : Int) = (m6.length : Int)
              · obtain ⟨b, hb, hi⟩ := same_l0 a0 a1 a2 a3 a4 l5 l6 b0 b1 b2 b3 b4 m5 m6 (by omega) (by omega) (by omega) (by omega) l5.length 0 k (by omega) (by omega)
                rw [show ((0 : Nat) : Int) = 0 from rfl] at hb
                refine ⟨b, by rw [prebendref12_Same.j0.eq_2, if_neg (by simp [c6])]; exact hb, ?_⟩
                rw [hi, List.drop_zero, List.drop_zero]
                exact ⟨fun h => ⟨c0, c1, c2, c3, c4, h.1, h.2⟩, fun h => ⟨h.2.2.2.2.2.1, h.2.2.2.2.2.2⟩⟩
              · exact ⟨false, hT _ (by simp [bne, c6]), ⟨fun h => by simp at h, fun h => (c6 (by rw [h.2.2.2.2.2.2])).elim⟩⟩
            · rw [if_neg c5]; exact ⟨false, hT _ rfl, ⟨fun h => by simp at h, fun h => (c5 (by rw [h.2.2.2.2.2.1])).elim⟩⟩
          · rw [if_neg (fun h => c4 ((tl_iff _ _).1 h))]; exact ⟨false, hT _ rfl, ⟨fun h => by simp at h, fun h => (c4 h.2.2.2.2.1).elim⟩⟩
        · rw [if_neg (fun h => c3 ((tl_iff _ _).1 h))]; exact ⟨false, hT _ rfl, ⟨fun h => by simp at h, fun h => (c3 h.2.2.2.1).elim⟩⟩
      · rw [if_neg c2]; exact ⟨false, hT _ rfl, ⟨fun h => by simp at h, fun h => (c2 h.2.2.1).elim⟩⟩
    · rw [if_neg c1]; exact ⟨false, hT _ rfl, ⟨fun h => by simp at h, fun h => (c1 h.2.1).elim⟩⟩
  · rw [if_neg c0]; exact ⟨false, hT _ rfl, ⟨fun h => by simp at h, fun h => (c0 h.1).elim⟩⟩
theorem str_inj : ∀ (xs ys : List Int), (∀ x ∈ xs, 0 ≤ x ∧ x ≤ 255) → (∀ x ∈ ys, 0 ≤ x ∧ x ≤ 255) → (strOfNums xs).toList = (strOfNums ys).toList → xs = ys := by
  intro xs ys hx hy h
  rw [Go.ByteArray.toList_eq, Go.ByteArray.toList_eq] at h
  simp only [strOfNums, List.toList_toArray] at h
  induction xs generalizing ys with
  | nil => cases ys with
    | nil => rfl
    | cons y ys => simp at h
  | cons x xs ih => cases ys with
    | nil => simp at h
    | cons y ys =>
      simp only [List.map_cons, List.cons.injEq] at h
      have h1 := hx x (List.mem_cons_self ..)
      have h2 := hy y (List.mem_cons_self ..)
      have h3 := congrArg UInt8.toNat h.1
      simp only [UInt8.toNat_ofNat'] at h3
      rw [ih ys (fun z hz => hx z (List.mem_cons_of_mem _ hz)) (fun z hz => hy z (List.mem_cons_of_mem _ hz)) h.2]
      congr 1
      omega
theorem beN_bd (v : Int) : ∀ (d : Nat) (y : Int), y ∈ beN d v → 0 ≤ y ∧ y ≤ 255
  | 0, y, h => by simp [beN] at h
  | d + 1, y, h => by
    rcases List.mem_cons.1 h with rfl | h
    · omega
    · exact beN_bd v d y h
theorem flat8_bd (l : List Int) : ∀ y ∈ flat8 l, 0 ≤ y ∧ y ≤ 255 := by
  intro y hy
  simp only [flat8, List.mem_flatten, List.mem_map] at hy
  obtain ⟨_, ⟨v, _, rfl⟩, h⟩ := hy
  exact beN_bd v 8 y h
theorem encS_bd (a0 a1 a2 : Int) (a3 a4 : ByteArray) (l5 : List Int) (l6 : List S87) : ∀ y ∈ encS a0 a1 a2 a3 a4 l5 l6, 0 ≤ y ∧ y ≤ 255 := by
  intro y hy
  have hw : ∀ s : ByteArray, y ∈ wd s → 0 ≤ y ∧ y ≤ 255 := fun s h => by
    rcases List.mem_append.1 h with h | h
    · exact beN_bd _ 2 y h
    · obtain ⟨b, _, rfl⟩ := List.mem_map.1 h
      have := UInt8.toNat_lt b
      omega
  have hl : y ∈ flatL l6 → 0 ≤ y ∧ y ≤ 255 := fun h => by
    simp only [flatL, List.mem_flatten, List.mem_map] at h
    obtain ⟨_, ⟨v, _, rfl⟩, h⟩ := h
    exact flat8_bd _ y h
  simp only [encS, List.mem_append, List.not_mem_nil, false_or] at hy
  rcases hy with (((((h | h) | h) | h) | h) | h) | h
  · exact flat8_bd _ y h
  · exact hw _ h
  · exact hw _ h
  · exact flat8_bd _ y h
  · exact flat8_bd _ y h
  · exact flat8_bd _ y h
  · exact hl h

theorem be_num (bs : List Int) (hb : ∀ x ∈ bs, 0 ≤ x ∧ x ≤ 255) (hl : bs.length = 8) : beN 8 (numS bs 0) = bs := by
  obtain ⟨c0, c1, c2, c3, c4, c5, c6, c7, rfl⟩ : ∃ c0 c1 c2 c3 c4 c5 c6 c7, bs = [c0, c1, c2, c3, c4, c5, c6, c7] := by
    match bs, hl with
    | [c0, c1, c2, c3, c4, c5, c6, c7], _ => exact ⟨_, _, _, _, _, _, _, _, rfl⟩
  simp only [List.mem_cons, List.not_mem_nil, or_false, forall_eq_or_imp, forall_eq] at hb
  obtain ⟨h0, h1, h2, h3, h4, h5, h6, h7⟩ := hb
  simp only [numS]
  rw [or_byte 0 c0 h0.1 (by omega), show wrap64 (0 * 256 + c0) = c0 by unfold wrap64; omega]
  rw [or_byte _ c1 h1.1 (by omega), show wrap64 (c0 * 256 + c1) = c0 * 256 + c1 by unfold wrap64; omega]
  rw [or_byte _ c2 h2.1 (by omega), show wrap64 ((c0 * 256 + c1) * 256 + c2) = c0 * 65536 + c1 * 256 + c2 by unfold wrap64; omega]
  rw [or_byte _ c3 h3.1 (by omega), show wrap64 ((c0 * 65536 + c1 * 256 + c2) * 256 + c3) = c0 * 16777216 + c1 * 65536 + c2 * 256 + c3 by unfold wrap64; omega]
  rw [or_byte _ c4 h4.1 (by omega)]
  generalize hx : c0 * 16777216 + c1 * 65536 + c2 * 256 + c3 = x
  rw [show wrap64 (x * 256 + c4) = x * 256 + c4 by unfold wrap64; omega]
  rw [or_byte _ c5 h5.1 (by omega), show wrap64 ((x * 256 + c4) * 256 + c5) = x * 65536 + c4 * 256 + c5 by unfold wrap64; omega]
  rw [or_byte _ c6 h6.1 (by omega), show wrap64 ((x * 65536 + c4 * 256 + c5) * 256 + c6) = x * 16777216 + c4 * 65536 + c5 * 256 + c6 by unfold wrap64; omega]
  rw [or_byte _ c7 h7.1 (by omega)]
  generalize hy : wrap64 ((x * 16777216 + c4 * 65536 + c5 * 256 + c6) * 256 + c7) = y
  have hy2 : y = x * 4294967296 + c4 * 16777216 + c5 * 65536 + c6 * 256 + c7 ∨ y = x * 4294967296 + c4 * 16777216 + c5 * 65536 + c6 * 256 + c7 - 18446744073709551616 := by rw [← hy]; unfold wrap64; omega
  simp only [beN]
  have q0 : y / 2 ^ (8 * 7) % 256 = c0 := by show y / 72057594037927936 % 256 = c0; omega
  have q1 : y / 2 ^ (8 * 6) % 256 = c1 := by show y / 281474976710656 % 256 = c1; omega
  have q2 : y / 2 ^ (8 * 5) % 256 = c2 := by show y / 1099511627776 % 256 = c2; omega
  have q3 : y / 2 ^ (8 * 4) % 256 = c3 := by show y / 4294967296 % 256 = c3; omega
  have q4 : y / 2 ^ (8 * 3) % 256 = c4 := by show y / 16777216 % 256 = c4; omega
  have q5 : y / 2 ^ (8 * 2) % 256 = c5 := by show y / 65536 % 256 = c5; omega
  have q6 : y / 2 ^ (8 * 1) % 256 = c6 := by show y / 256 % 256 = c6; omega
  have q7 : y / 2 ^ (8 * 0) % 256 = c7 := by show y / 1 % 256 = c7; omega
  rw [q0, q1, q2, q3, q4, q5, q6, q7]
def Byt (l : List Int) : Prop := ∀ x ∈ l, 0 ≤ x ∧ x ≤ 255
theorem Byt.drop {l : List Int} (h : Byt l) (n : Nat) : Byt (l.drop n) := fun x hx => h x (List.mem_of_mem_drop hx)
theorem Byt.take {l : List Int} (h : Byt l) (n : Nat) : Byt (l.take n) := fun x hx => h x (List.mem_of_mem_take hx)
theorem numS_w : ∀ (bs : List Int) (n : Int), Byt bs → W64 n → W64 (numS bs n)
  | [], n, _, h => h
  | c :: r, n, hb, h => by
    have hc := hb c (List.mem_cons_self ..)
    rw [numS, or_byte _ _ hc.1 (by omega)]
    refine numS_w r _ (fun x hx => hb x (List.mem_cons_of_mem _ hx)) ?_
    unfold W64 wrap64; omega
theorem bytesOf_str (xs : List Int) (hb : Byt xs) : bytesOf (strOfNums xs) = xs := by
  unfold bytesOf strOfNums
  simp only [List.map_map]
  rw [List.map_congr_left (g := id) (fun x hx => ?_)]
  · simp
  · have := hb x hx
    simp only [Function.comp, UInt8.toNat_ofNat', id]
    omega
theorem str_size (xs : List Int) : (strOfNums xs).size = xs.length := by
  show (strOfNums xs).data.size = _
  simp [strOfNums]
theorem int_ok {s : List Int × Bool} (h : (rInt s).2.2 = false) : s.2 = false ∧ 8 ≤ s.1.length ∧ rInt s = (numS (s.1.take 8) 0, (s.1.drop 8, false)) := by
  unfold rInt at h ⊢
  by_cases c : s.2 = true ∨ s.1.length < 8
  · rw [if_pos c] at h; simp at h
  · rw [if_neg c]
    exact ⟨by cases hs : s.2 <;> simp_all, by omega, rfl⟩
theorem text_ok {s : List Int × Bool} (h : (rText s 16).2.2 = false) : s.2 = false ∧ 2 ≤ s.1.length ∧ numS (s.1.take 2) 0 ≤ 16 ∧ numS (s.1.take 2) 0 ≤ ((s.1.length - 2 : Nat) : Int) ∧ rText s 16 = ((s.1.drop 2).take (numS (s.1.take 2) 0).toNat, ((s.1.drop 2).drop (numS (s.1.take 2) 0).toNat, false)) := by
  unfold rText at h ⊢
  by_cases c : s.2 = true ∨ s.1.length < 2
  · rw [if_pos c] at h; simp at h
  · rw [if_neg c] at h ⊢
    by_cases d : numS (s.1.take 2) 0 > 16 ∨ ((s.1.length - 2 : Nat) : Int) < numS (s.1.take 2) 0
    · rw [if_pos d] at h; simp at h
    · rw [if_neg d]
      exact ⟨by cases hs : s.2 <;> simp_all, by omega, by omega, by omega, rfl⟩
theorem inv_int {s : List Int × Bool} (hb : Byt s.1) (h : (rInt s).2.2 = false) : s.1 = beN 8 (rInt s).1 ++ (rInt s).2.1 ∧ W64 (rInt s).1 ∧ Byt (rInt s).2.1 := by
  obtain ⟨h1, h2, h3⟩ := int_ok h
  rw [h3]
  refine ⟨?_, numS_w _ _ (hb.take 8) (by unfold W64; omega), hb.drop 8⟩
  show s.1 = beN 8 (numS (s.1.take 8) 0) ++ s.1.drop 8
  rw [be_num _ (hb.take 8) (by rw [List.length_take]; omega), List.take_append_drop]
theorem inv_text {s : List Int × Bool} (hb : Byt s.1) (h : (rText s 16).2.2 = false) : s.1 = wd (strOfNums (rText s 16).1) ++ (rText s 16).2.1 ∧ (strOfNums (rText s 16).1).size ≤ 16 ∧ Byt (rText s 16).2.1 := by
  obtain ⟨h1, h2, h3, h4, h5⟩ := text_ok h
  rw [h5]
  obtain ⟨x, y, r, hs⟩ : ∃ x y r, s.1 = x :: y :: r := by
    match hs : s.1, h2 with
    | x :: y :: r, _ => exact ⟨x, y, r, rfl⟩
  have hx : 0 ≤ x ∧ x ≤ 255 := hb x (by rw [hs]; simp)
  have hy : 0 ≤ y ∧ y ≤ 255 := hb y (by rw [hs]; simp)
  have hn : numS (s.1.take 2) 0 = x * 256 + y := by rw [hs]; exact numS_two x y hx hy
  rw [hn] at h3 h4 ⊢
  have hx0 : x = 0 := by omega
  subst hx0
  have hlen : ((s.1.drop 2).take ((0 : Int) * 256 + y).toNat).length = y.toNat := by rw [List.length_take, List.length_drop]; omega
  refine ⟨?_, by rw [str_size, hlen]; omega, (hb.drop 2).drop _⟩
  show s.1 = (beN 2 ((strOfNums ((s.1.drop 2).take ((0 : Int) * 256 + y).toNat)).size : Int) ++ bytesOf (strOfNums ((s.1.drop 2).take ((0 : Int) * 256 + y).toNat))) ++ (s.1.drop 2).drop ((0 : Int) * 256 + y).toNat
  rw [str_size, hlen, bytesOf_str _ ((hb.drop 2).take _), List.append_assoc, List.take_append_drop, Int.toNat_of_nonneg hy.1, hs]
  show 0 :: y :: r = [y / 2 ^ (8 * 1) % 256, y / 2 ^ (8 * 0) % 256] ++ r
  rw [show y / 2 ^ (8 * 1) % 256 = 0 by show y / 256 % 256 = 0; omega, show y / 2 ^ (8 * 0) % 256 = y by show y / 1 % 256 = y; omega]
  rfl
theorem args_ok : ∀ (n : Nat) (s : List Int × Bool) (out : List Int), (dec_args n s out).2.2 = false → s.2 = false
  | 0, s, out, h => h
  | n + 1, s, out, h => by
    rw [dec_args] at h
    exact (int_ok (args_ok n _ _ h)).1
theorem legs_ok : ∀ (n : Nat) (s : List Int × Bool) (out : List S87), (dec_legs n s out).2.2 = false → s.2 = false
  | 0, s, out, h => h
  | n + 1, s, out, h => by
    rw [dec_legs] at h
    exact (int_ok (int_ok (legs_ok n _ _ h)).1).1
theorem inv_args : ∀ (n : Nat) (s : List Int × Bool) (out : List Int), Byt s.1 → (dec_args n s out).2.2 = false → ∃ L, (dec_args n s out).1 = out ++ L ∧ L.length = n ∧ s.1 = flat8 L ++ (dec_args n s out).2.1 ∧ (∀ x ∈ L, W64 x) ∧ Byt (dec_args n s out).2.1
  | 0, s, out, hb, _ => ⟨[], by simp [dec_args], rfl, by simp [flat8, dec_args], by simp, hb⟩
  | n + 1, s, out, hb, h => by
    rw [dec_args] at h ⊢
    obtain ⟨e, hw, hb2⟩ := inv_int hb (args_ok n _ _ h)
    obtain ⟨L, h1, h2, h3, h4, h5⟩ := inv_args n _ _ hb2 h
    refine ⟨(rInt s).1 :: L, by rw [h1]; simp, by simp [h2], ?_, ?_, h5⟩
    · rw [e, h3, flat8_cons, List.append_assoc, ← h3]
    · intro x hx
      rcases List.mem_cons.1 hx with rfl | hx
      · exact hw
      · exact h4 x hx
theorem inv_legs : ∀ (n : Nat) (s : List Int × Bool) (out : List S87), Byt s.1 → (dec_legs n s out).2.2 = false → ∃ L, (dec_legs n s out).1 = out ++ L ∧ L.length = n ∧ s.1 = flatL L ++ (dec_legs n s out).2.1 ∧ (∀ x ∈ L, W64 x.f0 ∧ W64 x.f1)
  | 0, s, out, hb, _ => ⟨[], by simp [dec_legs], rfl, by simp [flatL, dec_legs], by simp⟩
  | n + 1, s, out, hb, h => by
    rw [dec_legs] at h ⊢
    have hb1 := legs_ok n _ _ h
    have hb0 := (int_ok hb1).1
    obtain ⟨e, hw, hb2⟩ := inv_int hb hb0
    obtain ⟨e2, hw2, hb3⟩ := inv_int hb2 hb1
    obtain ⟨L, h1, h2, h3, h4⟩ := inv_legs n _ _ hb3 h
    refine ⟨⟨(rInt s).1, (rInt (rInt s).2).1⟩ :: L, by rw [h1]; simp, by simp [h2], ?_, ?_⟩
    · rw [flatL_cons, List.append_assoc, ← h3]
      simp only [flat8, List.map_cons, List.map_nil, List.flatten_cons, List.flatten_nil, List.append_nil, List.append_assoc]
      rw [← e2]; exact e
    · intro x hx
      rcases List.mem_cons.1 hx with rfl | hx
      · exact ⟨hw, hw2⟩
      · exact h4 x hx
theorem dec_inv (l : List Int) (hb : Byt l) (h : (decF l).2.2.2.2.2.2.2 = 0) : ∃ a0 a1 a2 a3 a4 l5 l6, decF l = (a0, a1, a2, a3, a4, l5, l6, 0) ∧ l = encS a0 a1 a2 a3 a4 l5 l6 ∧ (a3.size ≤ 16 ∧ a4.size ≤ 16 ∧ l5.length ≤ 8 ∧ l6.length ≤ 64) ∧ W64 a0 ∧ W64 a1 ∧ W64 a2 ∧ (∀ x ∈ l5, W64 x) ∧ (∀ x ∈ l6, W64 x.f0 ∧ W64 x.f1) := by
  unfold decF at h ⊢
  generalize hr1 : rInt (l, false) = r1 at *
  generalize hr2 : rInt r1.2 = r2 at *
  generalize hr3 : rInt r2.2 = r3 at *
  generalize hr4 : rText r3.2 16 = r4 at *
  generalize hr5 : rText r4.2 16 = r5 at *
  generalize hr6 : rInt r5.2 = r6 at *
  by_cases c1 : 0 ≤ r6.1 ∧ r6.1 ≤ 8
  · rw [if_pos c1] at h ⊢
    generalize hr7 : dec_args r6.1.toNat r6.2 [] = r7 at *
    unfold decT at h ⊢
    generalize hr8 : rInt r7.2 = r8 at *
    by_cases c2 : 0 ≤ r8.1 ∧ r8.1 ≤ 64
    · rw [if_pos c2] at h ⊢
      generalize hr9 : dec_legs r8.1.toNat r8.2 [] = r9 at *
      unfold decU at h ⊢
      by_cases c3 : rEnd r9.2 = true
      · rw [if_pos c3]
        have c4 : r9.2.2 = false ∧ r9.2.1 = [] := by
          unfold rEnd at c3
          simpa using c3
        have b8 : r8.2.2 = false := legs_ok _ _ [] (by rw [hr9]; exact c4.1)
        have b7 : r7.2.2 = false := (int_ok (by rw [hr8]; exact b8)).1
        have b6 : r6.2.2 = false := args_ok _ _ [] (by rw [hr7]; exact b7)
        have b5 : r5.2.2 = false := (int_ok (by rw [hr6]; exact b6)).1
        have b4 : r4.2.2 = false := (text_ok (by rw [hr5]; exact b5)).1
        have b3 : r3.2.2 = false := (text_ok (by rw [hr4]; exact b4)).1
        have b2 : r2.2.2 = false := (int_ok (by rw [hr3]; exact b3)).1
        have b1 : r1.2.2 = false := (int_ok (by rw [hr2]; exact b2)).1
        obtain ⟨e1, w1, y1⟩ := inv_int (s := (l, false)) hb (by rw [hr1]; exact b1)
        rw [hr1] at e1 w1 y1
        obtain ⟨e2, w2, y2⟩ := inv_int y1 (by rw [hr2]; exact b2)
        rw [hr2] at e2 w2 y2
        obtain ⟨e3, w3, y3⟩ := inv_int y2 (by rw [hr3]; exact b3)
        rw [hr3] at e3 w3 y3
        obtain ⟨e4, w4, y4⟩ := inv_text y3 (by rw [hr4]; exact b4)
        rw [hr4] at e4 w4 y4
        obtain ⟨e5, w5, y5⟩ := inv_text y4 (by rw [hr5]; exact b5)
        rw [hr5] at e5 w5 y5
        obtain ⟨e6, w6, y6⟩ := inv_int y5 (by rw [hr6]; exact b6)
        rw [hr6] at e6 w6 y6
        obtain ⟨L, q1, q2, q3, q4, y7⟩ := inv_args r6.1.toNat r6.2 [] y6 (by rw [hr7]; exact b7)
        rw [hr7] at q1 q3 y7
        obtain ⟨e8, w8, y8⟩ := inv_int y7 (by rw [hr8]; exact b8)
        rw [hr8] at e8 w8 y8
        obtain ⟨M, p1, p2, p3, p4⟩ := inv_legs r8.1.toNat r8.2 [] y8 (by rw [hr9]; exact c4.1)
        rw [hr9] at p1 p3
        rw [c4.2, List.append_nil] at p3
        have hL : r7.1 = L := by simpa using q1
        have hM : r9.1 = M := by simpa using p1
        refine ⟨_, _, _, _, _, _, _, rfl, ?_, ⟨w4, w5, by rw [hL]; omega, by rw [hM]; omega⟩, w1, w2, w3, by rw [hL]; exact q4, by rw [hM]; exact p4⟩
        have n5 : ((r7.1.length : Nat) : Int) = r6.1 := by rw [hL]; omega
        have n6 : ((r9.1.length : Nat) : Int) = r8.1 := by rw [hM]; omega
        unfold encS
        rw [n5, n6, hL, hM]
        simp only [flat8, List.map_cons, List.map_nil, List.flatten_cons, List.flatten_nil, List.append_nil, List.nil_append, List.append_assoc]
        have e1' : l = beN 8 r1.1 ++ r1.2.1 := e1
        rw [e1', e2, e3, e4, e5, e6, q3, e8, p3]
        simp only [flat8, List.append_assoc]
      · rw [if_neg c3] at h; simp [decBad] at h
    · rw [if_neg c2] at h; simp [decBad] at h
  · rw [if_neg c1] at h; simp [decBad] at h
theorem dec_cases (l : List Int) : decF l = decBad ∨ (decF l).2.2.2.2.2.2.2 = 0 := by
  unfold decF
  split
  · unfold decT
    split
    · unfold decU
      split
      · exact .inr rfl
      · exact .inl rfl
    · exact .inl rfl
  · exact .inl rfl
theorem dec_ext (a0 a1 a2 : Int) (a3 a4 : ByteArray) (l5 : List Int) (l6 : List S87) (r : List Int) (hr : r ≠ []) (h : a3.size ≤ 16 ∧ a4.size ≤ 16 ∧ l5.length ≤ 8 ∧ l6.length ≤ 64) (w0 : W64 a0) (w1 : W64 a1) (w2 : W64 a2) (w5 : ∀ x ∈ l5, W64 x) (w6 : ∀ x ∈ l6, W64 x.f0 ∧ W64 x.f1) : decF (encS a0 a1 a2 a3 a4 l5 l6 ++ r) = decBad := by
  have e : encS a0 a1 a2 a3 a4 l5 l6 ++ r = beN 8 a0 ++ (beN 8 a1 ++ (beN 8 a2 ++ (wd a3 ++ (wd a4 ++ (beN 8 (l5.length : Int) ++ (flat8 l5 ++ (beN 8 (l6.length : Int) ++ (flatL l6 ++ r)))))))) := by
    unfold encS; simp [flat8, List.append_assoc]
  have wl5 : W64 (l5.length : Int) := by unfold W64; omega
  have wl6 : W64 (l6.length : Int) := by unfold W64; omega
  rw [e]
  unfold decF
  simp only [rInt_be _ _ w0, rInt_be _ _ w1, rInt_be _ _ w2, rText_wd _ _ h.1, rText_wd _ _ h.2.1, rInt_be _ _ wl5]
  rw [if_pos (by omega), Int.toNat_natCast, args_be _ _ _ w5]
  unfold decT
  simp only [rInt_be _ _ wl6]
  rw [if_pos (by omega), Int.toNat_natCast, legs_be _ _ _ w6]
  unfold decU
  rw [if_neg]
  simp [rEnd, hr]
theorem flatL_len : ∀ (l : List S87), (flatL l).length = 16 * l.length
  | [] => rfl
  | x :: l => by rw [flatL_cons, List.length_append, flatL_len l, flat8_len]; simp; omega
theorem encS_len (a0 a1 a2 : Int) (a3 a4 : ByteArray) (l5 : List Int) (l6 : List S87) : (encS a0 a1 a2 a3 a4 l5 l6).length = 44 + a3.size + a4.size + 8 * l5.length + 16 * l6.length := by
  unfold encS
  simp only [List.length_append, flat8_len, flatL_len, wd_len, List.length_cons, List.length_nil]
  omega

theorem awake12 : ∀ k, 250 ≤ k → prebendlaw12_awake.f k = some true := by
  intro k hk
  obtain ⟨j, rfl⟩ : ∃ j, k = 250 + j := ⟨k - 250, by omega⟩
  clear hk
  induction j with
  | zero => decide +kernel
  | succ j ih => exact prebendlaw12_awake.mono _ _ ih
theorem wfW (x : Int) (h : (Lit.int .i64 x).wf = true) : W64 x := by
  unfold W64; simpa [Lit.wf, IntKind.min, IntKind.max, IntKind.signed, IntKind.bits] using h
theorem wfB (x : Int) (h : (Lit.int .u8 x).wf = true) : 0 ≤ x ∧ x ≤ 255 := by
  simpa [Lit.wf, IntKind.min, IntKind.max, IntKind.signed, IntKind.bits] using h
theorem legsW (l : List S87) (h : ∀ y ∈ l, g87 y) : ∀ y ∈ l, W64 y.f0 ∧ W64 y.f1 := fun y hy => ⟨wfW _ (h y hy).1, wfW _ (h y hy).2⟩
theorem Dec_f (l : List Int) (hl : l.length < 140737488355328) (hb : Byt l) : entry_Decode.f l = some (decF l) := if_pos ⟨hl, hb⟩
theorem back_j1 (K : Nat) (hK : 300 ≤ K) (l : List Int) (hl : l.length < 140737488355328) (hb : Byt l) : prebendlaw12_EntryBack.j1 K l = some true := by
  obtain ⟨k, rfl⟩ : ∃ k, K = k + 1 := ⟨K - 1, by omega⟩
  rw [prebendlaw12_EntryBack.j1.eq_2, Dec_f l hl hb, Option.bind_some]
  rcases dec_cases l with h | h
  · rw [h, if_neg (by decide), awake12 k (by omega), Option.bind_some, if_pos rfl]
    obtain ⟨b, hb2, hi⟩ := same_f k 0 0 0 ⟨#[]⟩ ⟨#[]⟩ [] [] 0 0 0 ⟨#[]⟩ ⟨#[]⟩ [] [] (by simp) (by simp) (by omega)
    have : b = true := hi.2 rfl
    subst this
    show (prebendref12_Same.f k 0 0 0 ⟨#[]⟩ ⟨#[]⟩ [] [] 0 0 0 ⟨#[]⟩ ⟨#[]⟩ [] []).bind _ = _
    rw [hb2]; rfl
  · obtain ⟨a0, a1, a2, a3, a4, l5, l6, hd, he, hs, _⟩ := dec_inv l hb h
    rw [hd, if_pos rfl]
    simp only
    rw [enc_ok k a0 a1 a2 a3 a4 l5 l6 hs (by omega), Option.bind_some, awake12 k (by omega), Option.bind_some, if_pos rfl, if_pos rfl, ← he]
    simp
theorem EntryBack : prebendlaw12_EntryBack.Pure := by
  intro a0 a1 a2 a3 a4 l5 l6 l1 m h0 h1 h2 h3 h4 h5 h6 g1 y1 g2
  refine ⟨400, ?_⟩
  have hb1 : Byt l1 := fun x hx => wfB x (g1.2 x hx)
  have hJ := fun K hK => back_j1 K hK l1 (by omega) hb1
  unfold prebendlaw12_EntryBack.f
  by_cases h : a3.size ≤ 16 ∧ a4.size ≤ 16 ∧ l5.length ≤ 8 ∧ l6.length ≤ 64
  · have w0 := wfW _ h0
    have w1 := wfW _ h1
    have w2 := wfW _ h2
    have w5 := fun x hx => wfW x (h5.2 x hx)
    have w6 := legsW l6 h6.2
    rw [enc_ok 400 a0 a1 a2 a3 a4 l5 l6 h (by omega), Option.bind_some, if_pos rfl]
    have hlen := encS_len a0 a1 a2 a3 a4 l5 l6
    have hbd : Byt (encS a0 a1 a2 a3 a4 l5 l6) := encS_bd _ _ _ _ _ _ _
    have hd := dec_enc a0 a1 a2 a3 a4 l5 l6 h w0 w1 w2 w5 w6
    have hx := fun r hr => dec_ext a0 a1 a2 a3 a4 l5 l6 r hr h w0 w1 w2 w5 w6
    generalize encS a0 a1 a2 a3 a4 l5 l6 = E at *
    simp only
    rw [Dec_f E (by omega) hbd, Option.bind_some, Option.bind_some, if_pos (by simp; omega), Option.bind_some, if_pos (by simp; omega), List.nil_append]
    have hbm : Byt (E ++ [m]) := fun x hx => by
      rcases List.mem_append.1 hx with h | h
      · exact hbd x h
      · rw [List.mem_singleton] at h; rw [h]; exact wfB m g2
    rw [Dec_f (E ++ [m]) (by simp; omega) hbm, Option.bind_some, hd, hx [m] (by simp), if_pos rfl]
    obtain ⟨b, hb2, hi⟩ := same_f 400 a0 a1 a2 a3 a4 l5 l6 a0 a1 a2 a3 a4 l5 l6 h.2.2.1 h.2.2.2 (by omega)
    have hbt : b = true := hi.2 rfl
    subst hbt
    simp only
    rw [hb2, Option.bind_some, if_pos rfl, if_pos (show decBad.2.2.2.2.2.2.2 = 3 from rfl), prebendlaw12_EntryBack.j0.eq_2, if_neg (by simp; intro h; subst h; simp at hlen; omega)]
    have e1 : wrap64 ((E.length : Int) - 1) = ((E.length - 1 : Nat) : Int) := by unfold wrap64; omega
    rw [e1, if_pos (by omega), if_pos (by omega), Int.toNat_natCast, Dec_f _ (by rw [List.length_take]; omega) (hbd.take _), Option.bind_some]
    have hcut : decF (E.take (E.length - 1)) = decBad := by
      rcases dec_cases (E.take (E.length - 1)) with q | q
      · exact q
      · exfalso
        obtain ⟨b0, b1, b2, b3, b4, m5, m6, qd, qe, qs, v0, v1, v2, v5, v6⟩ := dec_inv _ (hbd.take _) q
        have e2 : E = encS b0 b1 b2 b3 b4 m5 m6 ++ E.drop (E.length - 1) := by rw [← qe, List.take_append_drop]
        have hne : E.drop (E.length - 1) ≠ [] := by
          intro hz
          have := congrArg List.length hz
          rw [List.length_drop] at this
          simp at this
          omega
        have := dec_ext b0 b1 b2 b3 b4 m5 m6 _ hne qs v0 v1 v2 v5 v6
        rw [← e2, hd] at this
        simp [decBad] at this
    rw [hcut, if_pos (show decBad.2.2.2.2.2.2.2 = 3 from rfl)]
    exact hJ _ (by omega)
  · rw [enc_bad 400 a0 a1 a2 a3 a4 l5 l6 h (by omega), Option.bind_some, if_neg (by decide)]
    exact hJ _ (by omega)

end Go.Proofs.Ytjmkpcnekghmhaa.Pure
end
section
namespace Go.Proofs.Ytjmkpcnekghmhaa.Rd
open Go.ChangeShapes Go.WideShapes Go.Deep Go.RowKit Go.Proofs.YtjmkpcnekghmhaaW.PrintWords
set_option linter.unusedVariables false
/-- Cells that are read as a value of type T stand for a plain value x of kind d, of which 'good' holds. -/
def Rds {α : Type} (P : Program) (d : Kd α) (T : TypeId) (good : α → Prop) : Prop :=
  ∀ (H : Type) (enc : TypeId × Value → H) (w : World) (base : Nat) (spare : Nat → Bool) (held : Bool) (n : Nat) (cs : List Value) (y : DataW H × List MemPlace),
    DataW.trod enc P w base spare held n T cs = some y → ∃ x, d.K w x cs ∧ good x
theorem rds_int {P : Program} {T : TypeId} {k : IntKind} (ht : P.underlying T = some (.int k)) : Rds P (Kd.int k) T (fun x => (Lit.int k x).wf = true) := by
  intro H enc w base spare held n cs y h
  obtain ⟨m, rfl, _, hw⟩ := DataW.trod_int ht h
  exact ⟨m, rfl, hw⟩
theorem rds_bool {P : Program} {T : TypeId} (ht : P.underlying T = some .bool) : Rds P Kd.bool T (fun _ => True) := by
  intro H enc w base spare held n cs y h
  obtain ⟨m, rfl, _⟩ := DataW.trod_bool ht h
  exact ⟨m, rfl, trivial⟩
theorem rds_string {P : Program} {T : TypeId} (ht : P.underlying T = some .string) : Rds P Kd.string T (fun s => s.size ≤ maxLen) := by
  intro H enc w base spare held n cs y h
  obtain ⟨m, rfl, _, hw⟩ := DataW.trod_string ht h
  exact ⟨m, rfl, hw⟩
theorem rds_slice {α : Type} {P : Program} {d : Kd α} {T e : TypeId} {good : α → Prop} (ht : P.underlying T = some (.slice e)) (hc : P.cellsOf e = d.sz) (hr : Rds P d e good) :
    Rds P (Kd.slice e d) T (fun xs => xs.length ≤ maxLen ∧ ∀ x ∈ xs, good x) := by
  intro H enc w base spare held n cs y h
  rcases open_slice ht h with ⟨rfl, _⟩ | ⟨a, len, cap, m, n', D, Pl, rfl, hb, hl, hm, hmm, _, hi⟩
  · exact ⟨[], ⟨none, 0, rfl, Nat.le_refl _, rfl, by simp, fun h0 => absurd h0 (by simp)⟩, by simp, by simp⟩
  · have hlm : len ≤ m := by rw [hmm]; split <;> omega
    have step : ∀ l, l ≤ len → ∃ xs : List α, xs.length = l ∧ (∀ x ∈ xs, good x) ∧ ∀ j p, xs[j]? = some p → ∃ c, w.cells? base (a.add (j * d.sz)) d.sz = some c ∧ d.K w p c := by
      intro l
      induction l with
      | zero => intro _; exact ⟨[], rfl, by simp, by simp⟩
      | succ l ih =>
        intro hl1
        obtain ⟨xs, hx, hg, hj⟩ := ih (by omega)
        obtain ⟨c, h1, h2⟩ := hi l (by omega)
        obtain ⟨x, k, g⟩ := hr _ _ _ _ _ _ _ _ _ h2
        rw [hc] at h1
        refine ⟨xs ++ [x], by simp [hx], ?_, ?_⟩
        · intro z hz
          rcases List.mem_append.1 hz with hz | hz
          · exact hg z hz
          · rw [List.mem_singleton.1 hz]; exact g
        · intro j p hp
          rcases Nat.lt_or_ge j xs.length with hlt | hge
          · rw [List.getElem?_append_left hlt] at hp; exact hj j p hp
          · have hjl : j = l := by
              have := (List.getElem?_eq_some_iff.1 hp).1
              rw [List.length_append, List.length_singleton] at this
              omega
            subst hjl
            rw [List.getElem?_append_right hge, hx, Nat.sub_self] at hp
            simp at hp
            subst hp
            exact ⟨c, h1, k⟩
    obtain ⟨xs, hx, hg, hj⟩ := step len (Nat.le_refl _)
    refine ⟨xs, ⟨some a, cap, by rw [hx], by omega, rfl, by rw [hx]; unfold maxLen at hm; omega, fun _ => ⟨a, rfl, fun j p hp => ?_⟩⟩, by rw [hx]; omega, hg⟩
    obtain ⟨c, h1, k⟩ := hj j p hp
    refine ⟨c, d.K_len k, k, fun i u hu => ?_⟩
    obtain ⟨_, hcl, hat⟩ := World.cells?_some h1
    have hil : i < d.sz := by have := (List.getElem?_eq_some_iff.1 hu).1; omega
    rw [← Go.Deep.add_add, hat i hil, hu]
/-- Two kinds in line. -/
theorem pair_mk {α β : Type} {a : Kd α} {b : Kd β} {w : World} {x : α} {y : β} {cs : List Value} {o : Nat} (h1 : a.K w x ((cs.drop o).take a.sz)) (h2 : b.K w y (cs.drop (o + a.sz))) : (Kd.pair a b).K w (x, y) (cs.drop o) :=
  ⟨_, _, by rw [← List.drop_drop]; exact (List.take_append_drop a.sz (cs.drop o)).symm, h1, h2⟩
theorem last_mk {α : Type} {a : Kd α} {w : World} {x : α} {cs : List Value} {o : Nat} (hl : cs.length = o + a.sz) (h1 : a.K w x ((cs.drop o).take a.sz)) : a.K w x (cs.drop o) := by
  rwa [List.take_of_length_le (by rw [List.length_drop]; omega)] at h1
/-- A struct's field. -/
theorem field {H : Type} {enc : TypeId × Value → H} {P : Program} {w : World} {base : Nat} {spare : Nat → Bool} {held : Bool} {n : Nat} {cs : List Value} {fs : Array Field} {xs : List (DataW H × List MemPlace)} (hx : xs.length = fs.size)
    (hf : ∀ (i : Nat) (f : Field), fs[i]? = some f → DataW.trod enc P w base spare held n f.type ((cs.drop f.offset).take (P.cellsOf f.type)) = xs[i]?)
    (i : Nat) (f : Field) (hi : fs[i]? = some f) {α : Type} {d : Kd α} {good : α → Prop} {o T : Nat} (ho : f.offset = o) (hT : f.type = T) (hc : P.cellsOf T = d.sz) (hr : Rds P d T good) : ∃ x, d.K w x ((cs.drop o).take d.sz) ∧ good x := by
  have h := hf i f hi
  have hlt : i < xs.length := by rw [hx]; exact (Array.getElem?_eq_some_iff.1 hi).1
  rw [List.getElem?_eq_getElem hlt, ho, hT, hc] at h
  exact hr _ _ _ _ _ _ _ _ _ h
end Go.Proofs.Ytjmkpcnekghmhaa.Rd
end
section
namespace Go.Proofs.Ytjmkpcnekghmhaa.entryBack
open Go.ChangeShapes Go.WideShapes Go.ChangeAt Go.RowKit Go.Proofs.YtjmkpcnekghmhaaW.PrintWords Go.Proofs.Ytjmkpcnekghmhaa.PAll
open Go.ChangeMaps (open_string shut_string)
set_option linter.unusedVariables false
theorem own : ownKnob Try.prog.godebug = none := by kernel_rfl
theorem laidOut : laidOutB Try.prog = true := by kernel_rfl
theorem rds87 : Rd.Rds Try.prog k87 87 g87 := by
  intro H enc w base spare held n cs y h
  obtain ⟨xs, m, _, _, hlen, hxl, hf⟩ := DataW.trod_struct Try.underlying87 h
  have hl : cs.length = 2 := hlen.trans (by kernel_rfl)
  obtain ⟨x0, h0, g0_⟩ := Rd.field hxl hf 0 _ rfl (d := (Kd.int .i64)) (good := (fun x => (Lit.int .i64 x).wf = true)) (o := 0) (T := 3) rfl rfl (by kernel_rfl) (Rd.rds_int Try.underlying3)
  obtain ⟨x1, h1, g1_⟩ := Rd.field hxl hf 1 _ rfl (d := (Kd.int .i64)) (good := (fun x => (Lit.int .i64 x).wf = true)) (o := 1) (T := 3) rfl rfl (by kernel_rfl) (Rd.rds_int Try.underlying3)
  have hK := (Rd.pair_mk (o := 0) h0 (Rd.last_mk (a := (Kd.int .i64)) (o := 1) hl h1))
  exact ⟨⟨x0, x1⟩, (by rw [List.drop_zero] at hK; exact hK), ⟨g0_, g1_⟩⟩
theorem rds50 : Rd.Rds Try.prog k50 50 g50 := by
  intro H enc w base spare held n cs y h
  obtain ⟨xs, m, _, _, hlen, hxl, hf⟩ := DataW.trod_struct Try.underlying50 h
  have hl : cs.length = 7 := hlen.trans (by kernel_rfl)
  obtain ⟨x0, h0, g0_⟩ := Rd.field hxl hf 0 _ rfl (d := (Kd.int .i64)) (good := (fun x => (Lit.int .i64 x).wf = true)) (o := 0) (T := 3) rfl rfl (by kernel_rfl) (Rd.rds_int Try.underlying3)
  obtain ⟨x1, h1, g1_⟩ := Rd.field hxl hf 1 _ rfl (d := (Kd.int .i64)) (good := (fun x => (Lit.int .i64 x).wf = true)) (o := 1) (T := 3) rfl rfl (by kernel_rfl) (Rd.rds_int Try.underlying3)
  obtain ⟨x2, h2, g2_⟩ := Rd.field hxl hf 2 _ rfl (d := (Kd.int .i64)) (good := (fun x => (Lit.int .i64 x).wf = true)) (o := 2) (T := 3) rfl rfl (by kernel_rfl) (Rd.rds_int Try.underlying3)
  obtain ⟨x3, h3, g3_⟩ := Rd.field hxl hf 3 _ rfl (d := Kd.string) (good := (fun x => x.size ≤ maxLen)) (o := 3) (T := 9) rfl rfl (by kernel_rfl) (Rd.rds_string Try.underlying9)
  obtain ⟨x4, h4, g4_⟩ := Rd.field hxl hf 4 _ rfl (d := Kd.string) (good := (fun x => x.size ≤ maxLen)) (o := 4) (T := 9) rfl rfl (by kernel_rfl) (Rd.rds_string Try.underlying9)
  obtain ⟨x5, h5, g5_⟩ := Rd.field hxl hf 5 _ rfl (d := (Kd.slice 3 (Kd.int .i64))) (good := (fun x => (x.length ≤ maxLen ∧ ∀ y ∈ x, (Lit.int .i64 y).wf = true))) (o := 5) (T := 42) rfl rfl (by kernel_rfl) (Rd.rds_slice (P := Try.prog) (T := 42) Try.underlying42 (by kernel_rfl) (Rd.rds_int Try.underlying3))
  obtain ⟨x6, h6, g6_⟩ := Rd.field hxl hf 6 _ rfl (d := (Kd.slice 87 k87)) (good := (fun x => (x.length ≤ maxLen ∧ ∀ y ∈ x, g87 y))) (o := 6) (T := 48) rfl rfl (by kernel_rfl) (Rd.rds_slice (P := Try.prog) (T := 48) Try.underlying48 (by kernel_rfl) rds87)
  have hK := (Rd.pair_mk (o := 0) h0 (Rd.pair_mk (o := 1) h1 (Rd.pair_mk (o := 2) h2 (Rd.pair_mk (o := 3) h3 (Rd.pair_mk (o := 4) h4 (Rd.pair_mk (o := 5) h5 (Rd.last_mk (a := (Kd.slice 87 k87)) (o := 6) hl h6)))))))
  exact ⟨⟨x0, x1, x2, x3, x4, x5, x6⟩, (by rw [List.drop_zero] at hK; exact hK), ⟨g0_, g1_, g2_, g3_, g4_, g5_, g6_⟩⟩
set_option maxRecDepth 100000 in
theorem lifted (os : Os) (started : os.Started) (H : Type) (enc : TypeId × Value → H) :
    ReturnsInHanded {} Try.checked os 10 .any (Rows.entryBackSpec.pre6 enc Try.prog Try.f10 Rows.entryBackRow.domain false) (Rows.entryBackSpec.post enc Try.prog Try.f10 false true false false) := by
  refine returnsInHanded_of_change_sized (C := Try.checked) own started (by kernel_rfl) Try.func10
    (ChangeSpec.witness6 (enc := enc) (C := Try.checked) false ⟨#[], #[.agg #[.int .i64 0, .int .i64 0, .int .i64 0, .string ByteArray.empty, .string ByteArray.empty, .slice none 0 0, .slice none 0 0], .slice none 0 0, .int .u8 0], []⟩ 8 (by kernel_rfl) (by kernel_rfl) (by kernel_rfl) (by kernel_rfl)) ?_
  intro W base args ds gs before hval0 hW hcnd hsz0 _
  have hval : ∀ (j : Nat) t v, Try.f10.params[j]? = some t → args[j]? = some v → Value.okWide Try.prog W .any base t v := hval0
  have hW' := hW
  obtain ⟨p, q, hA0, hV, rfl, hfz, hnd⟩ := hW
  have hA : DataW.TrodAll enc Try.prog W 0 (fun _ => true) true Try.f10.params.toList args.toList ds p := hA0
  have hsz : (DataW.weightsEach Try.prog (Try.f10.params.toList ++ Rows.entryBackSpec.plain.varTypes Try.prog) (ds ++ gs)).all (· ≤ reachBytes) = true := hsz0
  rw [Try.params10] at hA hval hsz
  obtain ⟨v0, vs0, d0, ds0, p0, q0, hargs, rfl, rfl, h0, r0⟩ := trodAll_cons hA
  obtain ⟨v1, vs1, d1, ds1, p1, q1, rfl, rfl, rfl, h1, r1⟩ := trodAll_cons r0
  obtain ⟨v2, vs2, d2, ds2, p2, q2, rfl, rfl, rfl, h2, r2⟩ := trodAll_cons r1
  obtain ⟨rfl, rfl, rfl⟩ := trodAll_nil r2
  obtain rfl : args = #[v0, v1, v2] := by cases args; simp_all
  obtain ⟨rfl, rfl⟩ := trodVars_none hV
  obtain ⟨⟨cs0⟩, rfl, hz0⟩ := okWide_struct Try.underlying50 (hval 0 50 v0 rfl rfl)
  have k0 := h0
  have lt0 : ∀ x ∈ p0, x.block < W.heap.size := by obtain ⟨m, hm⟩ := k0; exact DataW.trod_lt m _ _ _ hm
  obtain ⟨x0, hK0, g0_⟩ : ∃ x, k50.K W x cs0 ∧ g50 x := by
    obtain ⟨fuel, hf⟩ := h0
    exact rds50 _ _ _ _ _ _ _ _ _ hf
  obtain ⟨A0_5, c0_5, A0_6, c0_6, hcs0, hl0_5, hC0_5, hl0_6, hC0_6⟩ := k50_open hK0
  subst hcs0
  obtain ⟨a1, len1, cap1, rfl⟩ := okWide_slice Try.underlying22 (hval 1 22 v1 rfl rfl)
  have k1 := h1
  have lt1 : ∀ x ∈ p1, x.block < W.heap.size := by obtain ⟨m, hm⟩ := k1; exact DataW.trod_lt m _ _ _ hm
  obtain ⟨l1, ⟨A1, c1, he1, hl1, hC1⟩, g1_⟩ : ∃ xs, ((Kd.slice 5 (Kd.int .u8))).K W xs [.slice a1 len1 cap1] ∧ (fun x => (x.length ≤ maxLen ∧ ∀ y ∈ x, (Lit.int .u8 y).wf = true)) xs := by
    obtain ⟨fuel, hf⟩ := h1
    exact (Rd.rds_slice (P := Try.prog) (T := 22) Try.underlying22 (by kernel_rfl) (Rd.rds_int Try.underlying5)) _ _ _ _ _ _ _ _ _ hf
  obtain ⟨rfl, rfl, rfl⟩ : a1 = A1 ∧ len1 = l1.length ∧ cap1 = c1 := by simpa using he1
  have y1 : l1.length * 1 ≤ 140737488351232 := sized_ints hsz (j := 1) (t := 22) rfl rfl Try.underlying22 Try.underlying5 (by kernel_rfl) (by kernel_rfl) h1
  obtain ⟨a2, rfl, rfl, rfl, w2⟩ := open_int Try.underlying5 (hval 2 5 v2 rfl rfl) h2
  clear hA0 hval0 hsz0 hsz
  refine (PAll.prebendlaw12_EntryBack.walk Pure.EntryBack x0.f0 x0.f1 x0.f2 x0.f3 x0.f4 _ _ x0.f5 _ _ x0.f6 _ _ l1 a2 W hC0_5 hl0_5 hC0_6 hl0_6 hC1 hl1 g0_.1 g0_.2.1 g0_.2.2.1 g0_.2.2.2.1 g0_.2.2.2.2.1 g0_.2.2.2.2.2.1 g0_.2.2.2.2.2.2 g1_ y1 w2).mono fun e W' ⟨he, bel⟩ => ?_
  subst he
  exact ⟨_, rfl, _, _, _, [], _, [], hW', trodAll_mk1 (shut_bool Try.underlying4 _), (trodAll_cons_mk (Below.trod laidOut (by kernel_rfl) (of_decide_eq_true (by kernel_rfl)) k0 bel lt0) (trodAll_cons_mk (Below.trod laidOut (by kernel_rfl) (of_decide_eq_true (by kernel_rfl)) k1 bel lt1) (trodAll_cons_mk (shut_int Try.underlying5 w2) trodAll_mk0))), rfl, bel.frame _, fun h => by cases h⟩
theorem over : Rows.entryBackRow.holds Try.pinned (OpenSpec.ofChange Rows.entryBackSpec) :=
  OpenClaim.holds_of_wide 10 Try.f10 rfl rfl rfl rfl rfl rfl rfl ⟨rfl, rfl, rfl, rfl, rfl⟩ rfl rfl rfl rfl rfl (by kernel_rfl) Try.func10 (by kernel_rfl)
    (of_decide_eq_true (by kernel_rfl)) (by unfold Func.isWrapper; first | (rw [if_pos (by decide +kernel)]; kernel_rfl) | (rw [if_neg (by decide +kernel)]; exact ⟨rfl, rfl⟩))
    (fun os started H enc _ => lifted os started H enc)
theorem proved : Rows.EntryBackSaid := over
#print axioms proved
end Go.Proofs.Ytjmkpcnekghmhaa.entryBack
namespace Go.Proofs.Ytjmkpcnekghmhaa
/-- The row, under a short name, for the claim. -/
theorem entryBack_holds : Rows.EntryBackSaid := entryBack.proved
end Go.Proofs.Ytjmkpcnekghmhaa
end
