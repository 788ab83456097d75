/- Any transaction's bytes are what the document says: for every transaction that a call may be handed; no conditions. -/
import Derived.Test.YtjmkpcnekghmhaaBEntryEncodes4
import Derived.Deep.Slices
import Derived.Deep.Fields
import Derived.ChangeSame
import Derived.ChangeArms
import Derived.OpenShut
import Derived.Test.YtjmkpcnekghmhaaRows
import Derived.ProofKit
import Derived.ShutString
import Derived.ChangeOld
import Derived.Carry
section
set_option linter.unusedVariables false
set_option linter.unusedSimpArgs false
namespace Go.Proofs.Ytjmkpcnekghmhaa.Pure
open Go Go.RowKit Go.Proofs.Ytjmkpcnekghmhaa.PAll Go.Proofs.YtjmkpcnekghmhaaW.PrintWords Go.Proofs.YtjmkpcnekghmhaaW.PrintLast

/-- A number's bytes, the highest first. -/
def beN : Nat → Int → List Int
  | 0, _ => []
  | d + 1, v => (v / 2 ^ (8 * d) % 256) :: beN d v
theorem beN_len (v : Int) : ∀ d, (beN d v).length = d
  | 0 => rfl
  | d + 1 => by simp [beN, beN_len v d]
def flat8 (l : List Int) : List Int := (l.map (beN 8)).flatten
theorem flat8_len (l : List Int) : (flat8 l).length = 8 * l.length := by
  induction l with
  | nil => rfl
  | cons x l ih => simp only [flat8, List.map_cons, List.flatten_cons, List.length_append, beN_len, List.length_cons] at ih ⊢; omega
theorem flat8_cons (x : Int) (l : List Int) : flat8 (x :: l) = beN 8 x ++ flat8 l := rfl
theorem ints_in (v : Int) (L : List Int) (n10 nL : Int) : ∀ (d k : Nat) (x0 : List Int), d ≤ 8 → x0.length + d < 1000000 → entry_ints.l1 (k + d + 1) x0 v ((d : Int) - 1) L nL n10 = entry_ints.l0 k (x0 ++ beN d v) L nL (wrap64 (n10 + 1))
  | 0, k, x0, _, _ => by
    rw [entry_ints.l1.eq_2, if_neg (by simp)]; simp [beN]
  | d + 1, k, x0, h, hl => by
    have e1 : wrap64 (8 * (((d + 1 : Nat) : Int) - 1)) = ((8 * d : Nat) : Int) := by unfold wrap64; omega
    have e2 : wrap64 ((((d + 1 : Nat) : Int) - 1) - 1) = (d : Int) - 1 := by unfold wrap64; omega
    have e3 : shr .i64 v ((8 * d : Nat) : Int) = v / 2 ^ (8 * d) := by
      have := shr_small (rfl : shr .i64 v ((8 * d : Nat) : Int) = shr .i64 v ((8 * d : Nat) : Int)) (by show ((8 * d : Nat) : Int) ≤ 64; omega)
      rw [Int.toNat_natCast] at this
      exact this.symm
    rw [show k + (d + 1) + 1 = (k + d + 1) + 1 by omega, entry_ints.l1.eq_2, if_pos (by omega), e1, e2, if_pos (by omega), if_pos (by omega), e3, ints_in v L n10 nL d k _ (by omega) (by simp; omega)]
    simp [beN]
theorem ints_out (L : List Int) (hL : L.length < 10000) : ∀ (n j k : Nat) (x0 : List Int), j + n = L.length → x0.length + 8 * n < 900000 → entry_ints.l0 (k + 10 * n + 1) x0 L (L.length : Int) (j : Int) = some (x0 ++ flat8 (L.drop j))
  | 0, j, k, x0, h, _ => by
    rw [Nat.mul_zero, Nat.add_zero, entry_ints.l0.eq_2, if_neg (by omega), List.drop_eq_nil_of_le (by omega)]; simp [flat8]
  | n + 1, j, k, x0, h, hl => by
    have hlt : j < L.length := by omega
    have hr : rd L (j : Int) = L[j] := by simp [rd, List.getD_eq_getElem?_getD, hlt]
    have e : wrap64 ((j : Int) + 1) = ((j + 1 : Nat) : Int) := by unfold wrap64; omega
    rw [show k + 10 * (n + 1) + 1 = ((k + 10 * n + 1) + 8 + 1) + 1 by omega, entry_ints.l0.eq_2, if_pos (by omega), if_pos (by omega), if_pos (by omega)]
    have := ints_in (rd L (j : Int)) L (j : Int) (L.length : Int) 8 (k + 10 * n + 1) x0 (by omega) (by omega)
    rw [show (7 : Int) = ((8 : Nat) : Int) - 1 by omega, this, e, ints_out L hL n (j + 1) k _ (by omega) (by rw [List.length_append, beN_len]; omega), hr, List.drop_eq_getElem_cons hlt, flat8_cons, List.append_assoc]
theorem ints_f (K : Nat) (x0 L : List Int) (hL : L.length ≤ 8) (hx : x0.length < 100000) (hK : 81 ≤ K) : entry_ints.f K x0 L = some (x0 ++ flat8 L) := by
  obtain ⟨k, rfl⟩ : ∃ k, K = k + 10 * L.length + 1 := ⟨K - 10 * L.length - 1, by omega⟩
  exact ints_out L (by omega) L.length 0 k x0 (by omega) (by omega)
theorem ref_shift (v : Int) (d : Nat) (h : d < 8) : shr .u64 (IntKind.u64.wrap v) (IntKind.u64.wrap (wrap64 (8 * (((d + 1 : Nat) : Int) - 1)))) % 256 = v / 2 ^ (8 * d) % 256 := by
  have e1 : IntKind.u64.wrap (wrap64 (8 * (((d + 1 : Nat) : Int) - 1))) = ((8 * d : Nat) : Int) := by rw [show ∀ z, IntKind.u64.wrap z = z % 18446744073709551616 from fun _ => rfl]; unfold wrap64; omega
  rw [e1, show IntKind.u64.wrap v = v % 18446744073709551616 from rfl]
  show (v % 18446744073709551616) / 2 ^ (min ((8 * d : Nat) : Int).toNat 64) % 256 = _
  rw [Int.toNat_natCast, Nat.min_eq_left (by omega)]
  have hd : d = 0 ∨ d = 1 ∨ d = 2 ∨ d = 3 ∨ d = 4 ∨ d = 5 ∨ d = 6 ∨ d = 7 := by omega
  rcases hd with rfl | rfl | rfl | rfl | rfl | rfl | rfl | rfl <;> simp only [Nat.reduceMul, Int.reducePow] <;> omega
theorem ref_run (v : Int) : ∀ (d k : Nat) (xs : List Int), d ≤ 8 → xs.length + d < 140737488355328 → prebendref03_Int.l0 (k + d + 1) v xs ((d : Int) - 1) = some (xs ++ beN d v)
  | 0, k, xs, _, _ => by
    rw [prebendref03_Int.l0.eq_2, if_neg (by simp)]; simp [beN]
  | d + 1, k, xs, h, hl => by
    have e1 : IntKind.u64.wrap (wrap64 (8 * (((d + 1 : Nat) : Int) - 1))) = ((8 * d : Nat) : Int) := by rw [show ∀ z, IntKind.u64.wrap z = z % 18446744073709551616 from fun _ => rfl]; unfold wrap64; omega
    have e2 : wrap64 ((((d + 1 : Nat) : Int) - 1) - 1) = (d : Int) - 1 := by unfold wrap64; omega
    rw [show k + (d + 1) + 1 = (k + d + 1) + 1 by omega, prebendref03_Int.l0.eq_2, if_pos (by omega), if_pos (by rw [e1]; omega), if_pos (by omega), ref_shift v d (by omega), e2, ref_run v d k _ (by omega) (by simp; omega)]
    simp [beN]
theorem ref_int (K : Nat) (l : List Int) (v : Int) (hl : l.length < 1000000) (hK : 9 ≤ K) : prebendref03_Int.f K l v = some (l ++ beN 8 v) := by
  obtain ⟨k, rfl⟩ : ∃ k, K = k + 8 + 1 := ⟨K - 9, by omega⟩
  have h := ref_run v 8 k l (by omega) (by omega)
  unfold prebendref03_Int.f
  rw [Option.bind_some, if_pos (by simp; omega)]
  exact h
theorem word_f (l : List Int) (s : ByteArray) (hl : l.length < 1000000) (hs : s.size ≤ 16) : entry_word.f l s = some (l ++ (beN 2 (s.size : Int) ++ bytesOf s)) := by
  unfold entry_word.f
  rw [if_pos ⟨by omega, by omega⟩]
  have : beN 2 (s.size : Int) = [0, (s.size : Int) % 256] := by
    show [(s.size : Int) / 2 ^ (8 * 1) % 256, (s.size : Int) / 2 ^ (8 * 0) % 256] = _
    rw [show (s.size : Int) / 2 ^ (8 * 1) % 256 = 0 by show (s.size : Int) / 256 % 256 = 0; omega, show (s.size : Int) / 2 ^ (8 * 0) % 256 = (s.size : Int) % 256 by show (s.size : Int) / 1 % 256 = _; omega]
  rw [this]; simp
theorem ref_text (l : List Int) (s : ByteArray) (hl : l.length < 1000000) (hs : s.size ≤ 16) : prebendref03_Text.f l s = some (l ++ (beN 2 (s.size : Int) ++ bytesOf s)) := by
  unfold prebendref03_Text.f
  rw [if_pos ⟨by omega, by omega⟩]
  have : beN 2 (s.size : Int) = [(s.size : Int) / 256 % 256, (s.size : Int) % 256] := by
    show [(s.size : Int) / 2 ^ (8 * 1) % 256, (s.size : Int) / 2 ^ (8 * 0) % 256] = _
    rw [show (s.size : Int) / 2 ^ (8 * 1) % 256 = (s.size : Int) / 256 % 256 from rfl, show (s.size : Int) / 2 ^ (8 * 0) % 256 = (s.size : Int) % 256 by show (s.size : Int) / 1 % 256 = _; omega]
  rw [this]; simp

def wd (s : ByteArray) : List Int := beN 2 (s.size : Int) ++ bytesOf s
def flatL (l : List S87) : List Int := (l.map fun x => flat8 [x.f0, x.f1]).flatten
def encS (a0 a1 a2 : Int) (a3 a4 : ByteArray) (l5 : List Int) (l6 : List S87) : List Int :=
  ((((([] ++ flat8 [a0, a1, a2]) ++ wd a3) ++ wd a4) ++ flat8 [(l5.length : Int)]) ++ flat8 l5) ++ flat8 [(l6.length : Int)] ++ flatL l6
theorem wd_len (s : ByteArray) : (wd s).length = 2 + s.size := by simp [wd, beN_len, bytesOf_length]
theorem flatL_cons (x : S87) (l : List S87) : flatL (x :: l) = flat8 [x.f0, x.f1] ++ flatL l := rfl
theorem enc_legs (L : List S87) (hL : L.length ≤ 64) : ∀ (n j K : Nat) (x4 : List Int), j + n = L.length → x4.length + 16 * n < 50000 → n + 90 ≤ K → entry_Encode.l0 K x4 L (L.length : Int) (j : Int) = some (x4 ++ flatL (L.drop j), 0)
  | 0, j, K, x4, h, _, hK => by
    obtain ⟨k, rfl⟩ : ∃ k, K = k + 1 := ⟨K - 1, by omega⟩
    rw [entry_Encode.l0.eq_2, if_neg (by omega), List.drop_eq_nil_of_le (by omega)]
    simp [slices_Clip_byte.f, flatL]
  | n + 1, j, K, x4, h, hl, hK => by
    obtain ⟨k, rfl⟩ : ∃ k, K = k + 1 := ⟨K - 1, by omega⟩
    have hlt : j < L.length := by omega
    have hr : rd_T87 L (j : Int) = L[j] := by simp [rd_T87, List.getD_eq_getElem?_getD, hlt]
    have e : wrap64 ((j : Int) + 1) = ((j + 1 : Nat) : Int) := by unfold wrap64; omega
    rw [entry_Encode.l0.eq_2, if_pos (by omega), if_pos (by omega), if_pos (by omega), hr, ints_f k x4 _ (by simp) (by omega) (by omega), Option.bind_some, e,
      enc_legs L hL n (j + 1) k _ (by omega) (by rw [List.length_append, flat8_len]; simp; omega) (by omega), List.drop_eq_getElem_cons hlt, flatL_cons, List.append_assoc]
theorem enc_ok (K : Nat) (a0 a1 a2 : Int) (a3 a4 : ByteArray) (l5 : List Int) (l6 : List S87) (h : a3.size ≤ 16 ∧ a4.size ≤ 16 ∧ l5.length ≤ 8 ∧ l6.length ≤ 64) (hK : 200 ≤ K) : entry_Encode.f K a0 a1 a2 a3 a4 l5 l6 = some (encS a0 a1 a2 a3 a4 l5 l6, 0) := by
  obtain ⟨h3, h4, h5, h6⟩ := h
  obtain ⟨k, rfl⟩ : ∃ k, K = k + 1 := ⟨K - 1, by omega⟩
  unfold entry_Encode.f
  rw [if_neg (by unfold mx; split <;> omega), if_neg (by omega), entry_Encode.j0.eq_2, if_neg (by simp; omega)]
  have e0 : ([] : List Int).length = 0 := rfl
  have w3 := wd_len a3
  have w4 := wd_len a4
  rw [ints_f k [] [a0, a1, a2] (by simp) (by simp) (by omega), Option.bind_some]
  have q1 : ([] ++ flat8 [a0, a1, a2]).length = 24 := by rw [List.length_append, flat8_len]; rfl
  rw [word_f _ a3 (by omega) h3, Option.bind_some]
  have q2 : (([] ++ flat8 [a0, a1, a2]) ++ wd a3).length = 26 + a3.size := by rw [List.length_append, q1, w3]; omega
  change (entry_word.f (([] ++ flat8 [a0, a1, a2]) ++ wd a3) a4).bind _ = _
  rw [word_f _ a4 (by omega) h4, Option.bind_some]
  have q3 : ((([] ++ flat8 [a0, a1, a2]) ++ wd a3) ++ wd a4).length = 28 + a3.size + a4.size := by rw [List.length_append, q2, w4]; omega
  change (entry_ints.f k ((([] ++ flat8 [a0, a1, a2]) ++ wd a3) ++ wd a4) [(l5.length : Int)]).bind _ = _
  obtain ⟨E3, hE3⟩ : ∃ E3, ((([] ++ flat8 [a0, a1, a2]) ++ wd a3) ++ wd a4) = E3 := ⟨_, rfl⟩
  rw [hE3] at q3 ⊢
  rw [ints_f k E3 [(l5.length : Int)] (by simp) (by omega) (by omega), Option.bind_some]
  obtain ⟨E4, hE4⟩ : ∃ E4, E3 ++ flat8 [(l5.length : Int)] = E4 := ⟨_, rfl⟩
  have q4 : E4.length = E3.length + 8 := by rw [← hE4, List.length_append, flat8_len]; simp
  rw [hE4, ints_f k E4 l5 h5 (by omega) (by omega), Option.bind_some]
  obtain ⟨E5, hE5⟩ : ∃ E5, E4 ++ flat8 l5 = E5 := ⟨_, rfl⟩
  have q5 : E5.length = E4.length + 8 * l5.length := by rw [← hE5, List.length_append, flat8_len]
  rw [hE5, ints_f k E5 [(l6.length : Int)] (by simp) (by omega) (by omega), Option.bind_some]
  obtain ⟨E6, hE6⟩ : ∃ E6, E5 ++ flat8 [(l6.length : Int)] = E6 := ⟨_, rfl⟩
  have q6 : E6.length = E5.length + 8 := by rw [← hE6, List.length_append, flat8_len]; simp
  rw [hE6]
  have hL := enc_legs l6 h6 l6.length 0 k E6 (by omega) (by omega) (by omega)
  rw [show ((0 : Nat) : Int) = 0 from rfl] at hL
  rw [hL, List.drop_zero, ← hE6, ← hE5, ← hE4, ← hE3]
  rfl
theorem enc_bad (K : Nat) (a0 a1 a2 : Int) (a3 a4 : ByteArray) (l5 : List Int) (l6 : List S87) (h : ¬ (a3.size ≤ 16 ∧ a4.size ≤ 16 ∧ l5.length ≤ 8 ∧ l6.length ≤ 64)) (hK : 200 ≤ K) : entry_Encode.f K a0 a1 a2 a3 a4 l5 l6 = some ([], 3) := by
  obtain ⟨k, rfl⟩ : ∃ k, K = k + 1 := ⟨K - 1, by omega⟩
  have hj : ∀ b, b = true → entry_Encode.j0 (k + 1) b a0 a1 a2 a3 a4 l5 l6 = some ([], 3) := fun b hb => by rw [entry_Encode.j0.eq_2, if_pos hb]
  unfold entry_Encode.f
  by_cases c1 : mx (a3.size : Int) (a4.size : Int) > 16
  · rw [if_pos c1]; exact hj _ rfl
  · rw [if_neg c1]
    by_cases c2 : (l5.length : Int) > 8
    · rw [if_pos c2]; exact hj _ rfl
    · rw [if_neg c2]
      refine hj _ (decide_eq_true ?_)
      unfold mx at c1
      split at c1 <;> omega
theorem flat8_one (v : Int) : flat8 [v] = beN 8 v := by simp [flat8]
theorem renc_legs (a0 a1 a2 : Int) (a3 a4 : ByteArray) (l5 : List Int) (L : List S87) (hL : L.length ≤ 64) : ∀ (n j K : Nat) (x4 : List Int), j + n = L.length → x4.length + 16 * n < 50000 → n + 12 ≤ K → prebendref12_Encode.l1 K x4 (j : Int) a0 a1 a2 a3 a4 l5 L = some (x4 ++ flatL (L.drop j), 0)
  | 0, j, K, x4, h, _, hK => by
    obtain ⟨k, rfl⟩ : ∃ k, K = k + 1 := ⟨K - 1, by omega⟩
    rw [prebendref12_Encode.l1.eq_2, if_neg (by omega), List.drop_eq_nil_of_le (by omega)]
    simp [flatL]
  | n + 1, j, K, x4, h, hl, hK => by
    obtain ⟨k, rfl⟩ : ∃ k, K = k + 1 := ⟨K - 1, by omega⟩
    have hlt : j < L.length := by omega
    have hr : rd_T87 L (j : Int) = L[j] := by simp [rd_T87, List.getD_eq_getElem?_getD, hlt]
    have e : wrap64 ((j : Int) + 1) = ((j + 1 : Nat) : Int) := by unfold wrap64; omega
    rw [prebendref12_Encode.l1.eq_2, if_pos (by omega), if_pos (by omega), hr, ref_int k x4 _ (by omega) (by omega), Option.bind_some, ref_int k _ _ (by rw [List.length_append, beN_len]; omega) (by omega), Option.bind_some, e,
      renc_legs a0 a1 a2 a3 a4 l5 L hL n (j + 1) k _ (by omega) (by rw [List.length_append, List.length_append, beN_len, beN_len]; omega) (by omega), List.drop_eq_getElem_cons hlt, flatL_cons]
    simp [flat8]
theorem renc_args (a0 a1 a2 : Int) (a3 a4 : ByteArray) (L : List Int) (l6 : List S87) (hL : L.length ≤ 8) (h6 : l6.length ≤ 64) : ∀ (n j K : Nat) (x4 : List Int), j + n = L.length → x4.length + 8 * n < 10000 → n + 90 ≤ K → prebendref12_Encode.l0 K x4 (j : Int) a0 a1 a2 a3 a4 L l6 = some (((x4 ++ flat8 (L.drop j)) ++ flat8 [(l6.length : Int)]) ++ flatL l6, 0)
  | 0, j, K, x4, h, hl, hK => by
    obtain ⟨k, rfl⟩ : ∃ k, K = k + 1 := ⟨K - 1, by omega⟩
    rw [prebendref12_Encode.l0.eq_2, if_neg (by omega), List.drop_eq_nil_of_le (by omega), ref_int k x4 _ (by omega) (by omega), Option.bind_some]
    have := renc_legs a0 a1 a2 a3 a4 L l6 h6 l6.length 0 k (x4 ++ beN 8 (l6.length : Int)) (by omega) (by rw [List.length_append, beN_len]; omega) (by omega)
    rw [show ((0 : Nat) : Int) = 0 from rfl] at this
    rw [this, List.drop_zero, flat8_one]
    simp [flat8]
  | n + 1, j, K, x4, h, hl, hK => by
    obtain ⟨k, rfl⟩ : ∃ k, K = k + 1 := ⟨K - 1, by omega⟩
    have hlt : j < L.length := by omega
    have hr : rd L (j : Int) = L[j] := by simp [rd, List.getD_eq_getElem?_getD, hlt]
    have e : wrap64 ((j : Int) + 1) = ((j + 1 : Nat) : Int) := by unfold wrap64; omega
    rw [prebendref12_Encode.l0.eq_2, if_pos (by omega), if_pos (by omega), hr, ref_int k x4 _ (by omega) (by omega), Option.bind_some, e,
      renc_args a0 a1 a2 a3 a4 L l6 hL h6 n (j + 1) k _ (by omega) (by rw [List.length_append, beN_len]; omega) (by omega), show flat8 (L.drop j) = beN 8 L[j] ++ flat8 (L.drop (j + 1)) by rw [List.drop_eq_getElem_cons hlt, flat8_cons]]
    simp only [List.append_assoc]
theorem renc_ok (K : Nat) (a0 a1 a2 : Int) (a3 a4 : ByteArray) (l5 : List Int) (l6 : List S87) (h : a3.size ≤ 16 ∧ a4.size ≤ 16 ∧ l5.length ≤ 8 ∧ l6.length ≤ 64) (hK : 200 ≤ K) : prebendref12_Encode.f K a0 a1 a2 a3 a4 l5 l6 = some (encS a0 a1 a2 a3 a4 l5 l6, 0) := by
  obtain ⟨h3, h4, h5, h6⟩ := h
  obtain ⟨k, rfl⟩ : ∃ k, K = k + 1 := ⟨K - 1, by omega⟩
  unfold prebendref12_Encode.f
  have w3 := wd_len a3
  have w4 := wd_len a4
  rw [if_neg (by omega), if_neg (by omega), if_neg (by omega), prebendref12_Encode.j0.eq_2, if_neg (by simp; omega)]
  rw [ref_int k [] a0 (by simp) (by omega), Option.bind_some, ref_int k _ a1 (by simp [beN_len]) (by omega), Option.bind_some, ref_int k _ a2 (by simp [beN_len]) (by omega), Option.bind_some]
  obtain ⟨E1, hE1⟩ : ∃ E1, ((([] ++ beN 8 a0) ++ beN 8 a1) ++ beN 8 a2) = E1 := ⟨_, rfl⟩
  have q1 : E1.length = 24 := by rw [← hE1]; simp [beN_len]
  rw [hE1, ref_text E1 a3 (by omega) h3, Option.bind_some]
  obtain ⟨E2, hE2⟩ : ∃ E2, E1 ++ wd a3 = E2 := ⟨_, rfl⟩
  have q2 : E2.length = 26 + a3.size := by rw [← hE2, List.length_append, w3]; omega
  change (prebendref03_Text.f (E1 ++ wd a3) a4).bind _ = _
  rw [hE2, ref_text E2 a4 (by omega) h4, Option.bind_some]
  obtain ⟨E3, hE3⟩ : ∃ E3, E2 ++ wd a4 = E3 := ⟨_, rfl⟩
  have q3 : E3.length = 28 + a3.size + a4.size := by rw [← hE3, List.length_append, w4]; omega
  change (prebendref03_Int.f k (E2 ++ wd a4) (l5.length : Int)).bind _ = _
  rw [hE3, ref_int k E3 _ (by omega) (by omega), Option.bind_some]
  have hA := renc_args a0 a1 a2 a3 a4 l5 l6 h5 h6 l5.length 0 k (E3 ++ beN 8 (l5.length : Int)) (by omega) (by rw [List.length_append, beN_len]; omega) (by omega)
  rw [show ((0 : Nat) : Int) = 0 from rfl] at hA
  rw [hA, List.drop_zero, ← hE3, ← hE2, ← hE1, ← flat8_one (l5.length : Int)]
  unfold encS
  simp [flat8, List.append_assoc]
theorem renc_bad (K : Nat) (a0 a1 a2 : Int) (a3 a4 : ByteArray) (l5 : List Int) (l6 : List S87) (h : ¬ (a3.size ≤ 16 ∧ a4.size ≤ 16 ∧ l5.length ≤ 8 ∧ l6.length ≤ 64)) (hK : 200 ≤ K) : prebendref12_Encode.f K a0 a1 a2 a3 a4 l5 l6 = some ([], 3) := by
  obtain ⟨k, rfl⟩ : ∃ k, K = k + 1 := ⟨K - 1, by omega⟩
  have hj : ∀ b, b = true → prebendref12_Encode.j0 (k + 1) b a0 a1 a2 a3 a4 l5 l6 = some ([], 3) := fun b hb => by rw [prebendref12_Encode.j0.eq_2, if_pos hb]
  unfold prebendref12_Encode.f
  by_cases c1 : (a3.size : Int) > 16
  · rw [if_pos c1]; exact hj _ rfl
  · rw [if_neg c1]
    by_cases c3 : (a4.size : Int) > 16
    · rw [if_pos c3]; exact hj _ rfl
    · rw [if_neg c3]
      by_cases c2 : (l5.length : Int) > 8
      · rw [if_pos c2]; exact hj _ rfl
      · rw [if_neg c2]
        exact hj _ (decide_eq_true (by omega))

theorem awake12 : prebendlaw12_awake.f 200 = some true := by decide +kernel
theorem EntryEncodes : prebendlaw12_EntryEncodes.Pure := by
  intro a0 a1 a2 a3 a4 l5 l6 h0 h1 h2 h3 h4 h5 h6
  refine ⟨200, ?_⟩
  unfold prebendlaw12_EntryEncodes.f
  by_cases h : a3.size ≤ 16 ∧ a4.size ≤ 16 ∧ l5.length ≤ 8 ∧ l6.length ≤ 64
  · rw [enc_ok 200 a0 a1 a2 a3 a4 l5 l6 h (by omega), Option.bind_some, renc_ok 200 a0 a1 a2 a3 a4 l5 l6 h (by omega), Option.bind_some, awake12, Option.bind_some, if_pos rfl, if_pos rfl]
    rfl
  · rw [enc_bad 200 a0 a1 a2 a3 a4 l5 l6 h (by omega), Option.bind_some, renc_bad 200 a0 a1 a2 a3 a4 l5 l6 h (by omega), Option.bind_some, awake12, Option.bind_some, if_pos rfl, if_pos rfl]
    rfl

end Go.Proofs.Ytjmkpcnekghmhaa.Pure
end
section
namespace Go.Proofs.Ytjmkpcnekghmhaa.Rd
open Go.ChangeShapes Go.WideShapes Go.Deep Go.RowKit Go.Proofs.YtjmkpcnekghmhaaW.PrintWords
set_option linter.unusedVariables false
/-- Cells that are read as a value of type T stand for a plain value x of kind d, of which 'good' holds. -/
def Rds {α : Type} (P : Program) (d : Kd α) (T : TypeId) (good : α → Prop) : Prop :=
  ∀ (H : Type) (enc : TypeId × Value → H) (w : World) (base : Nat) (spare : Nat → Bool) (held : Bool) (n : Nat) (cs : List Value) (y : DataW H × List MemPlace),
    DataW.trod enc P w base spare held n T cs = some y → ∃ x, d.K w x cs ∧ good x
theorem rds_int {P : Program} {T : TypeId} {k : IntKind} (ht : P.underlying T = some (.int k)) : Rds P (Kd.int k) T (fun x => (Lit.int k x).wf = true) := by
  intro H enc w base spare held n cs y h
  obtain ⟨m, rfl, _, hw⟩ := DataW.trod_int ht h
  exact ⟨m, rfl, hw⟩
theorem rds_bool {P : Program} {T : TypeId} (ht : P.underlying T = some .bool) : Rds P Kd.bool T (fun _ => True) := by
  intro H enc w base spare held n cs y h
  obtain ⟨m, rfl, _⟩ := DataW.trod_bool ht h
  exact ⟨m, rfl, trivial⟩
theorem rds_string {P : Program} {T : TypeId} (ht : P.underlying T = some .string) : Rds P Kd.string T (fun s => s.size ≤ maxLen) := by
  intro H enc w base spare held n cs y h
  obtain ⟨m, rfl, _, hw⟩ := DataW.trod_string ht h
  exact ⟨m, rfl, hw⟩
theorem rds_slice {α : Type} {P : Program} {d : Kd α} {T e : TypeId} {good : α → Prop} (ht : P.underlying T = some (.slice e)) (hc : P.cellsOf e = d.sz) (hr : Rds P d e good) :
    Rds P (Kd.slice e d) T (fun xs => xs.length ≤ maxLen ∧ ∀ x ∈ xs, good x) := by
  intro H enc w base spare held n cs y h
  rcases open_slice ht h with ⟨rfl, _⟩ | ⟨a, len, cap, m, n', D, Pl, rfl, hb, hl, hm, hmm, _, hi⟩
  · exact ⟨[], ⟨none, 0, rfl, Nat.le_refl _, rfl, by simp, fun h0 => absurd h0 (by simp)⟩, by simp, by simp⟩
  · have hlm : len ≤ m := by rw [hmm]; split <;> omega
    have step : ∀ l, l ≤ len → ∃ xs : List α, xs.length = l ∧ (∀ x ∈ xs, good x) ∧ ∀ j p, xs[j]? = some p → ∃ c, w.cells? base (a.add (j * d.sz)) d.sz = some c ∧ d.K w p c := by
      intro l
      induction l with
      | zero => intro _; exact ⟨[], rfl, by simp, by simp⟩
      | succ l ih =>
        intro hl1
        obtain ⟨xs, hx, hg, hj⟩ := ih (by omega)
        obtain ⟨c, h1, h2⟩ := hi l (by omega)
        obtain ⟨x, k, g⟩ := hr _ _ _ _ _ _ _ _ _ h2
        rw [hc] at h1
        refine ⟨xs ++ [x], by simp [hx], ?_, ?_⟩
        · intro z hz
          rcases List.mem_append.1 hz with hz | hz
          · exact hg z hz
          · rw [List.mem_singleton.1 hz]; exact g
        · intro j p hp
          rcases Nat.lt_or_ge j xs.length with hlt | hge
          · rw [List.getElem?_append_left hlt] at hp; exact hj j p hp
          · have hjl : j = l := by
              have := (List.getElem?_eq_some_iff.1 hp).1
              rw [List.length_append, List.length_singleton] at this
              omega
            subst hjl
            rw [List.getElem?_append_right hge, hx, Nat.sub_self] at hp
            simp at hp
            subst hp
            exact ⟨c, h1, k⟩
    obtain ⟨xs, hx, hg, hj⟩ := step len (Nat.le_refl _)
    refine ⟨xs, ⟨some a, cap, by rw [hx], by omega, rfl, by rw [hx]; unfold maxLen at hm; omega, fun _ => ⟨a, rfl, fun j p hp => ?_⟩⟩, by rw [hx]; omega, hg⟩
    obtain ⟨c, h1, k⟩ := hj j p hp
    refine ⟨c, d.K_len k, k, fun i u hu => ?_⟩
    obtain ⟨_, hcl, hat⟩ := World.cells?_some h1
    have hil : i < d.sz := by have := (List.getElem?_eq_some_iff.1 hu).1; omega
    rw [← Go.Deep.add_add, hat i hil, hu]
/-- Two kinds in line. -/
theorem pair_mk {α β : Type} {a : Kd α} {b : Kd β} {w : World} {x : α} {y : β} {cs : List Value} {o : Nat} (h1 : a.K w x ((cs.drop o).take a.sz)) (h2 : b.K w y (cs.drop (o + a.sz))) : (Kd.pair a b).K w (x, y) (cs.drop o) :=
  ⟨_, _, by rw [← List.drop_drop]; exact (List.take_append_drop a.sz (cs.drop o)).symm, h1, h2⟩
theorem last_mk {α : Type} {a : Kd α} {w : World} {x : α} {cs : List Value} {o : Nat} (hl : cs.length = o + a.sz) (h1 : a.K w x ((cs.drop o).take a.sz)) : a.K w x (cs.drop o) := by
  rwa [List.take_of_length_le (by rw [List.length_drop]; omega)] at h1
/-- A struct's field. -/
theorem field {H : Type} {enc : TypeId × Value → H} {P : Program} {w : World} {base : Nat} {spare : Nat → Bool} {held : Bool} {n : Nat} {cs : List Value} {fs : Array Field} {xs : List (DataW H × List MemPlace)} (hx : xs.length = fs.size)
    (hf : ∀ (i : Nat) (f : Field), fs[i]? = some f → DataW.trod enc P w base spare held n f.type ((cs.drop f.offset).take (P.cellsOf f.type)) = xs[i]?)
    (i : Nat) (f : Field) (hi : fs[i]? = some f) {α : Type} {d : Kd α} {good : α → Prop} {o T : Nat} (ho : f.offset = o) (hT : f.type = T) (hc : P.cellsOf T = d.sz) (hr : Rds P d T good) : ∃ x, d.K w x ((cs.drop o).take d.sz) ∧ good x := by
  have h := hf i f hi
  have hlt : i < xs.length := by rw [hx]; exact (Array.getElem?_eq_some_iff.1 hi).1
  rw [List.getElem?_eq_getElem hlt, ho, hT, hc] at h
  exact hr _ _ _ _ _ _ _ _ _ h
end Go.Proofs.Ytjmkpcnekghmhaa.Rd
end
section
namespace Go.Proofs.Ytjmkpcnekghmhaa.entryEncodes
open Go.ChangeShapes Go.WideShapes Go.ChangeAt Go.RowKit Go.Proofs.YtjmkpcnekghmhaaW.PrintWords Go.Proofs.Ytjmkpcnekghmhaa.PAll
open Go.ChangeMaps (open_string shut_string)
set_option linter.unusedVariables false
theorem own : ownKnob Try.prog.godebug = none := by kernel_rfl
theorem laidOut : laidOutB Try.prog = true := by kernel_rfl
theorem rds87 : Rd.Rds Try.prog k87 87 g87 := by
  intro H enc w base spare held n cs y h
  obtain ⟨xs, m, _, _, hlen, hxl, hf⟩ := DataW.trod_struct Try.underlying87 h
  have hl : cs.length = 2 := hlen.trans (by kernel_rfl)
  obtain ⟨x0, h0, g0_⟩ := Rd.field hxl hf 0 _ rfl (d := (Kd.int .i64)) (good := (fun x => (Lit.int .i64 x).wf = true)) (o := 0) (T := 3) rfl rfl (by kernel_rfl) (Rd.rds_int Try.underlying3)
  obtain ⟨x1, h1, g1_⟩ := Rd.field hxl hf 1 _ rfl (d := (Kd.int .i64)) (good := (fun x => (Lit.int .i64 x).wf = true)) (o := 1) (T := 3) rfl rfl (by kernel_rfl) (Rd.rds_int Try.underlying3)
  have hK := (Rd.pair_mk (o := 0) h0 (Rd.last_mk (a := (Kd.int .i64)) (o := 1) hl h1))
  exact ⟨⟨x0, x1⟩, (by rw [List.drop_zero] at hK; exact hK), ⟨g0_, g1_⟩⟩
theorem rds50 : Rd.Rds Try.prog k50 50 g50 := by
  intro H enc w base spare held n cs y h
  obtain ⟨xs, m, _, _, hlen, hxl, hf⟩ := DataW.trod_struct Try.underlying50 h
  have hl : cs.length = 7 := hlen.trans (by kernel_rfl)
  obtain ⟨x0, h0, g0_⟩ := Rd.field hxl hf 0 _ rfl (d := (Kd.int .i64)) (good := (fun x => (Lit.int .i64 x).wf = true)) (o := 0) (T := 3) rfl rfl (by kernel_rfl) (Rd.rds_int Try.underlying3)
  obtain ⟨x1, h1, g1_⟩ := Rd.field hxl hf 1 _ rfl (d := (Kd.int .i64)) (good := (fun x => (Lit.int .i64 x).wf = true)) (o := 1) (T := 3) rfl rfl (by kernel_rfl) (Rd.rds_int Try.underlying3)
  obtain ⟨x2, h2, g2_⟩ := Rd.field hxl hf 2 _ rfl (d := (Kd.int .i64)) (good := (fun x => (Lit.int .i64 x).wf = true)) (o := 2) (T := 3) rfl rfl (by kernel_rfl) (Rd.rds_int Try.underlying3)
  obtain ⟨x3, h3, g3_⟩ := Rd.field hxl hf 3 _ rfl (d := Kd.string) (good := (fun x => x.size ≤ maxLen)) (o := 3) (T := 9) rfl rfl (by kernel_rfl) (Rd.rds_string Try.underlying9)
  obtain ⟨x4, h4, g4_⟩ := Rd.field hxl hf 4 _ rfl (d := Kd.string) (good := (fun x => x.size ≤ maxLen)) (o := 4) (T := 9) rfl rfl (by kernel_rfl) (Rd.rds_string Try.underlying9)
  obtain ⟨x5, h5, g5_⟩ := Rd.field hxl hf 5 _ rfl (d := (Kd.slice 3 (Kd.int .i64))) (good := (fun x => (x.length ≤ maxLen ∧ ∀ y ∈ x, (Lit.int .i64 y).wf = true))) (o := 5) (T := 42) rfl rfl (by kernel_rfl) (Rd.rds_slice (P := Try.prog) (T := 42) Try.underlying42 (by kernel_rfl) (Rd.rds_int Try.underlying3))
  obtain ⟨x6, h6, g6_⟩ := Rd.field hxl hf 6 _ rfl (d := (Kd.slice 87 k87)) (good := (fun x => (x.length ≤ maxLen ∧ ∀ y ∈ x, g87 y))) (o := 6) (T := 48) rfl rfl (by kernel_rfl) (Rd.rds_slice (P := Try.prog) (T := 48) Try.underlying48 (by kernel_rfl) rds87)
  have hK := (Rd.pair_mk (o := 0) h0 (Rd.pair_mk (o := 1) h1 (Rd.pair_mk (o := 2) h2 (Rd.pair_mk (o := 3) h3 (Rd.pair_mk (o := 4) h4 (Rd.pair_mk (o := 5) h5 (Rd.last_mk (a := (Kd.slice 87 k87)) (o := 6) hl h6)))))))
  exact ⟨⟨x0, x1, x2, x3, x4, x5, x6⟩, (by rw [List.drop_zero] at hK; exact hK), ⟨g0_, g1_, g2_, g3_, g4_, g5_, g6_⟩⟩
set_option maxRecDepth 100000 in
theorem lifted (os : Os) (started : os.Started) (H : Type) (enc : TypeId × Value → H) :
    ReturnsInHanded {} Try.checked os 8 .any (Rows.entryEncodesSpec.pre6 enc Try.prog Try.f8 Rows.entryEncodesRow.domain false) (Rows.entryEncodesSpec.post enc Try.prog Try.f8 false true false false) := by
  refine returnsInHanded_of_change_sized (C := Try.checked) own started (by kernel_rfl) Try.func8
    (ChangeSpec.witness6 (enc := enc) (C := Try.checked) false ⟨#[], #[.agg #[.int .i64 0, .int .i64 0, .int .i64 0, .string ByteArray.empty, .string ByteArray.empty, .slice none 0 0, .slice none 0 0]], []⟩ 8 (by kernel_rfl) (by kernel_rfl) (by kernel_rfl) (by kernel_rfl)) ?_
  intro W base args ds gs before hval0 hW hcnd hsz0 _
  have hval : ∀ (j : Nat) t v, Try.f8.params[j]? = some t → args[j]? = some v → Value.okWide Try.prog W .any base t v := hval0
  have hW' := hW
  obtain ⟨p, q, hA0, hV, rfl, hfz, hnd⟩ := hW
  have hA : DataW.TrodAll enc Try.prog W 0 (fun _ => true) true Try.f8.params.toList args.toList ds p := hA0
  rw [Try.params8] at hA hval
  obtain ⟨v0, vs0, d0, ds0, p0, q0, hargs, rfl, rfl, h0, r0⟩ := trodAll_cons hA
  obtain ⟨rfl, rfl, rfl⟩ := trodAll_nil r0
  obtain rfl : args = #[v0] := by cases args; simp_all
  obtain ⟨rfl, rfl⟩ := trodVars_none hV
  obtain ⟨⟨cs0⟩, rfl, hz0⟩ := okWide_struct Try.underlying50 (hval 0 50 v0 rfl rfl)
  have k0 := h0
  have lt0 : ∀ x ∈ p0, x.block < W.heap.size := by obtain ⟨m, hm⟩ := k0; exact DataW.trod_lt m _ _ _ hm
  obtain ⟨x0, hK0, g0_⟩ : ∃ x, k50.K W x cs0 ∧ g50 x := by
    obtain ⟨fuel, hf⟩ := h0
    exact rds50 _ _ _ _ _ _ _ _ _ hf
  obtain ⟨A0_5, c0_5, A0_6, c0_6, hcs0, hl0_5, hC0_5, hl0_6, hC0_6⟩ := k50_open hK0
  subst hcs0
  clear hA0 hval0 hsz0
  refine (PAll.prebendlaw12_EntryEncodes.walk Pure.EntryEncodes x0.f0 x0.f1 x0.f2 x0.f3 x0.f4 _ _ x0.f5 _ _ x0.f6 W hC0_5 hl0_5 hC0_6 hl0_6 g0_.1 g0_.2.1 g0_.2.2.1 g0_.2.2.2.1 g0_.2.2.2.2.1 g0_.2.2.2.2.2.1 g0_.2.2.2.2.2.2).mono fun e W' ⟨he, bel⟩ => ?_
  subst he
  exact ⟨_, rfl, _, _, _, [], _, [], hW', trodAll_mk1 (shut_bool Try.underlying4 _), (trodAll_cons_mk (Below.trod laidOut (by kernel_rfl) (of_decide_eq_true (by kernel_rfl)) k0 bel lt0) trodAll_mk0), rfl, bel.frame _, fun h => by cases h⟩
theorem over : Rows.entryEncodesRow.holds Try.pinned (OpenSpec.ofChange Rows.entryEncodesSpec) :=
  OpenClaim.holds_of_wide 8 Try.f8 rfl rfl rfl rfl rfl rfl rfl ⟨rfl, rfl, rfl, rfl, rfl⟩ rfl rfl rfl rfl rfl (by kernel_rfl) Try.func8 (by kernel_rfl)
    (of_decide_eq_true (by kernel_rfl)) (by unfold Func.isWrapper; first | (rw [if_pos (by decide +kernel)]; kernel_rfl) | (rw [if_neg (by decide +kernel)]; exact ⟨rfl, rfl⟩))
    (fun os started H enc _ => lifted os started H enc)
theorem proved : Rows.EntryEncodesSaid := over
#print axioms proved
end Go.Proofs.Ytjmkpcnekghmhaa.entryEncodes
namespace Go.Proofs.Ytjmkpcnekghmhaa
/-- The row, under a short name, for the claim. -/
theorem entryEncodes_holds : Rows.EntryEncodesSaid := entryEncodes.proved
end Go.Proofs.Ytjmkpcnekghmhaa
end
