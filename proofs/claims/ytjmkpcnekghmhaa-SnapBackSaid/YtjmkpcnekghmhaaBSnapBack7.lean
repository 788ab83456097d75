/- A state comes back of its bytes, and bytes that are decoded are its own: for all that a call may be handed; no conditions. -/
import Derived.Test.YtjmkpcnekghmhaaBSnapBack6
import Derived.Deep.Slices
import Derived.Deep.Fields
import Derived.ChangeSame
import Derived.ChangeArms
import Derived.OpenShut
import Derived.Test.YtjmkpcnekghmhaaRows
import Derived.ProofKit
import Derived.ShutString
import Derived.ChangeOld
import Derived.Carry
section
set_option linter.unusedVariables false
set_option linter.unusedSimpArgs false
namespace Go.Proofs.Ytjmkpcnekghmhaa.Pure
open Go Go.RowKit Go.Proofs.Ytjmkpcnekghmhaa.PAll Go.Proofs.YtjmkpcnekghmhaaW.PrintWords Go.Proofs.YtjmkpcnekghmhaaW.PrintLast

def beN : Nat → Int → List Int
  | 0, _ => []
  | d + 1, v => (v / 2 ^ (8 * d) % 256) :: beN d v
theorem beN_len (v : Int) : ∀ d, (beN d v).length = d
  | 0 => rfl
  | d + 1 => by simp [beN, beN_len v d]
def flat8 (l : List Int) : List Int := (l.map (beN 8)).flatten
theorem flat8_len (l : List Int) : (flat8 l).length = 8 * l.length := by
  induction l with
  | nil => rfl
  | cons x l ih => simp only [flat8, List.map_cons, List.flatten_cons, List.length_append, beN_len, List.length_cons] at ih ⊢; omega
theorem flat8_cons (x : Int) (l : List Int) : flat8 (x :: l) = beN 8 x ++ flat8 l := rfl
def wd (s : ByteArray) : List Int := beN 2 (s.size : Int) ++ bytesOf s
theorem wd_len (s : ByteArray) : (wd s).length = 2 + s.size := by simp [wd, beN_len, bytesOf_length]
theorem horner (v : Int) : ∀ (d : Nat) (a : Int), d ≤ 8 → numS (beN d v) a = wrap64 (a * 2 ^ (8 * d) + v % 2 ^ (8 * d)) ∨ d = 0
  | 0, a, _ => .inr rfl
  | d + 1, a, h => by
    refine .inl ?_
    have hc : 0 ≤ v / 2 ^ (8 * d) % 256 ∧ v / 2 ^ (8 * d) % 256 ≤ 255 := by omega
    simp only [beN, numS]
    rw [or_byte _ _ hc.1 (by omega)]
    rcases horner v d (wrap64 (a * 256 + v / 2 ^ (8 * d) % 256)) (by omega) with e | rfl
    · rw [e]
      have hd : d = 0 ∨ d = 1 ∨ d = 2 ∨ d = 3 ∨ d = 4 ∨ d = 5 ∨ d = 6 ∨ d = 7 := by omega
      rcases hd with rfl | rfl | rfl | rfl | rfl | rfl | rfl | rfl <;> simp only [Nat.reduceMul, Nat.reduceAdd, Int.reducePow] <;> unfold wrap64 <;> omega
    · simp only [beN, numS, Nat.reduceMul, Nat.reduceAdd, Int.reducePow]; unfold wrap64; omega
def W64 (v : Int) : Prop := -9223372036854775808 ≤ v ∧ v ≤ 9223372036854775807
theorem num_be8 (v : Int) (h : W64 v) : numS (beN 8 v) 0 = v := by
  unfold W64 at h
  rcases horner v 8 0 (by omega) with e | e
  · rw [e]; simp only [Nat.reduceMul, Int.reducePow]; unfold wrap64; omega
  · cases e
theorem num_be2 (v : Int) (h : 0 ≤ v ∧ v ≤ 65535) : numS (beN 2 v) 0 = v := by
  rcases horner v 2 0 (by omega) with e | e
  · rw [e]; simp only [Nat.reduceMul, Int.reducePow]; unfold wrap64; omega
  · cases e
theorem rInt_be (v : Int) (r : List Int) (h : W64 v) : rInt (beN 8 v ++ r, false) = (v, (r, false)) := by
  unfold rInt
  rw [if_neg (by simp [beN_len])]
  simp only
  rw [List.take_left' (beN_len _ _), List.drop_left' (beN_len _ _), num_be8 _ h]
theorem rText_wd (s : ByteArray) (r : List Int) (h : s.size ≤ 16) : rText (wd s ++ r, false) 16 = (bytesOf s, (r, false)) := by
  unfold rText wd
  rw [List.append_assoc, if_neg (by simp [beN_len])]
  simp only
  rw [List.take_left' (beN_len _ _), List.drop_left' (beN_len _ _), num_be2 _ (by omega), if_neg (by simp [beN_len, bytesOf_length]; omega)]
  simp only [Int.toNat_natCast]
  rw [List.take_left' (bytesOf_length _), List.drop_left' (bytesOf_length _)]
theorem strOfNums_bytesOf (s : ByteArray) : strOfNums (bytesOf s) = s := by
  unfold strOfNums bytesOf
  rw [List.map_map]
  have : (s.data.toList.map ((fun n : Int => UInt8.ofNat n.toNat) ∘ fun b : UInt8 => (b.toNat : Int))) = s.data.toList := by
    rw [List.map_congr_left (g := id) (fun b _ => by simp [Function.comp])]
    simp
  rw [this]
theorem be_num (bs : List Int) (hb : ∀ x ∈ bs, 0 ≤ x ∧ x ≤ 255) (hl : bs.length = 8) : beN 8 (numS bs 0) = bs := by
  obtain ⟨c0, c1, c2, c3, c4, c5, c6, c7, rfl⟩ : ∃ c0 c1 c2 c3 c4 c5 c6 c7, bs = [c0, c1, c2, c3, c4, c5, c6, c7] := by
    match bs, hl with
    | [c0, c1, c2, c3, c4, c5, c6, c7], _ => exact ⟨_, _, _, _, _, _, _, _, rfl⟩
  simp only [List.mem_cons, List.not_mem_nil, or_false, forall_eq_or_imp, forall_eq] at hb
  obtain ⟨h0, h1, h2, h3, h4, h5, h6, h7⟩ := hb
  simp only [numS]
  rw [or_byte 0 c0 h0.1 (by omega), show wrap64 (0 * 256 + c0) = c0 by unfold wrap64; omega]
  rw [or_byte _ c1 h1.1 (by omega), show wrap64 (c0 * 256 + c1) = c0 * 256 + c1 by unfold wrap64; omega]
  rw [or_byte _ c2 h2.1 (by omega), show wrap64 ((c0 * 256 + c1) * 256 + c2) = c0 * 65536 + c1 * 256 + c2 by unfold wrap64; omega]
  rw [or_byte _ c3 h3.1 (by omega), show wrap64 ((c0 * 65536 + c1 * 256 + c2) * 256 + c3) = c0 * 16777216 + c1 * 65536 + c2 * 256 + c3 by unfold wrap64; omega]
  rw [or_byte _ c4 h4.1 (by omega)]
  generalize hx : c0 * 16777216 + c1 * 65536 + c2 * 256 + c3 = x
  rw [show wrap64 (x * 256 + c4) = x * 256 + c4 by unfold wrap64; omega]
  rw [or_byte _ c5 h5.1 (by omega), show wrap64 ((x * 256 + c4) * 256 + c5) = x * 65536 + c4 * 256 + c5 by unfold wrap64; omega]
  rw [or_byte _ c6 h6.1 (by omega), show wrap64 ((x * 65536 + c4 * 256 + c5) * 256 + c6) = x * 16777216 + c4 * 65536 + c5 * 256 + c6 by unfold wrap64; omega]
  rw [or_byte _ c7 h7.1 (by omega)]
  generalize hy : wrap64 ((x * 16777216 + c4 * 65536 + c5 * 256 + c6) * 256 + c7) = y
  have hy2 : y = x * 4294967296 + c4 * 16777216 + c5 * 65536 + c6 * 256 + c7 ∨ y = x * 4294967296 + c4 * 16777216 + c5 * 65536 + c6 * 256 + c7 - 18446744073709551616 := by rw [← hy]; unfold wrap64; omega
  simp only [beN]
  have q0 : y / 2 ^ (8 * 7) % 256 = c0 := by show y / 72057594037927936 % 256 = c0; omega
  have q1 : y / 2 ^ (8 * 6) % 256 = c1 := by show y / 281474976710656 % 256 = c1; omega
  have q2 : y / 2 ^ (8 * 5) % 256 = c2 := by show y / 1099511627776 % 256 = c2; omega
  have q3 : y / 2 ^ (8 * 4) % 256 = c3 := by show y / 4294967296 % 256 = c3; omega
  have q4 : y / 2 ^ (8 * 3) % 256 = c4 := by show y / 16777216 % 256 = c4; omega
  have q5 : y / 2 ^ (8 * 2) % 256 = c5 := by show y / 65536 % 256 = c5; omega
  have q6 : y / 2 ^ (8 * 1) % 256 = c6 := by show y / 256 % 256 = c6; omega
  have q7 : y / 2 ^ (8 * 0) % 256 = c7 := by show y / 1 % 256 = c7; omega
  rw [q0, q1, q2, q3, q4, q5, q6, q7]
def Byt (l : List Int) : Prop := ∀ x ∈ l, 0 ≤ x ∧ x ≤ 255
theorem Byt.drop {l : List Int} (h : Byt l) (n : Nat) : Byt (l.drop n) := fun x hx => h x (List.mem_of_mem_drop hx)
theorem Byt.take {l : List Int} (h : Byt l) (n : Nat) : Byt (l.take n) := fun x hx => h x (List.mem_of_mem_take hx)
theorem numS_w : ∀ (bs : List Int) (n : Int), Byt bs → W64 n → W64 (numS bs n)
  | [], n, _, h => h
  | c :: r, n, hb, h => by
    have hc := hb c (List.mem_cons_self ..)
    rw [numS, or_byte _ _ hc.1 (by omega)]
    refine numS_w r _ (fun x hx => hb x (List.mem_cons_of_mem _ hx)) ?_
    unfold W64 wrap64; omega
theorem bytesOf_str (xs : List Int) (hb : Byt xs) : bytesOf (strOfNums xs) = xs := by
  unfold bytesOf strOfNums
  simp only [List.map_map]
  rw [List.map_congr_left (g := id) (fun x hx => ?_)]
  · simp
  · have := hb x hx
    simp only [Function.comp, UInt8.toNat_ofNat', id]
    omega
theorem str_size (xs : List Int) : (strOfNums xs).size = xs.length := by
  show (strOfNums xs).data.size = _
  simp [strOfNums]
theorem int_ok {s : List Int × Bool} (h : (rInt s).2.2 = false) : s.2 = false ∧ 8 ≤ s.1.length ∧ rInt s = (numS (s.1.take 8) 0, (s.1.drop 8, false)) := by
  unfold rInt at h ⊢
  by_cases c : s.2 = true ∨ s.1.length < 8
  · rw [if_pos c] at h; simp at h
  · rw [if_neg c]
    exact ⟨by cases hs : s.2 <;> simp_all, by omega, rfl⟩
theorem text_ok {s : List Int × Bool} (h : (rText s 16).2.2 = false) : s.2 = false ∧ 2 ≤ s.1.length ∧ numS (s.1.take 2) 0 ≤ 16 ∧ numS (s.1.take 2) 0 ≤ ((s.1.length - 2 : Nat) : Int) ∧ rText s 16 = ((s.1.drop 2).take (numS (s.1.take 2) 0).toNat, ((s.1.drop 2).drop (numS (s.1.take 2) 0).toNat, false)) := by
  unfold rText at h ⊢
  by_cases c : s.2 = true ∨ s.1.length < 2
  · rw [if_pos c] at h; simp at h
  · rw [if_neg c] at h ⊢
    by_cases d : numS (s.1.take 2) 0 > 16 ∨ ((s.1.length - 2 : Nat) : Int) < numS (s.1.take 2) 0
    · rw [if_pos d] at h; simp at h
    · rw [if_neg d]
      exact ⟨by cases hs : s.2 <;> simp_all, by omega, by omega, by omega, rfl⟩
theorem inv_int {s : List Int × Bool} (hb : Byt s.1) (h : (rInt s).2.2 = false) : s.1 = beN 8 (rInt s).1 ++ (rInt s).2.1 ∧ W64 (rInt s).1 ∧ Byt (rInt s).2.1 := by
  obtain ⟨h1, h2, h3⟩ := int_ok h
  rw [h3]
  refine ⟨?_, numS_w _ _ (hb.take 8) (by unfold W64; omega), hb.drop 8⟩
  show s.1 = beN 8 (numS (s.1.take 8) 0) ++ s.1.drop 8
  rw [be_num _ (hb.take 8) (by rw [List.length_take]; omega), List.take_append_drop]
theorem inv_text {s : List Int × Bool} (hb : Byt s.1) (h : (rText s 16).2.2 = false) : s.1 = wd (strOfNums (rText s 16).1) ++ (rText s 16).2.1 ∧ (strOfNums (rText s 16).1).size ≤ 16 ∧ Byt (rText s 16).2.1 := by
  obtain ⟨h1, h2, h3, h4, h5⟩ := text_ok h
  rw [h5]
  obtain ⟨x, y, r, hs⟩ : ∃ x y r, s.1 = x :: y :: r := by
    match hs : s.1, h2 with
    | x :: y :: r, _ => exact ⟨x, y, r, rfl⟩
  have hx : 0 ≤ x ∧ x ≤ 255 := hb x (by rw [hs]; simp)
  have hy : 0 ≤ y ∧ y ≤ 255 := hb y (by rw [hs]; simp)
  have hn : numS (s.1.take 2) 0 = x * 256 + y := by rw [hs]; exact numS_two x y hx hy
  rw [hn] at h3 h4 ⊢
  have hx0 : x = 0 := by omega
  subst hx0
  have hlen : ((s.1.drop 2).take ((0 : Int) * 256 + y).toNat).length = y.toNat := by rw [List.length_take, List.length_drop]; omega
  refine ⟨?_, by rw [str_size, hlen]; omega, (hb.drop 2).drop _⟩
  show s.1 = (beN 2 ((strOfNums ((s.1.drop 2).take ((0 : Int) * 256 + y).toNat)).size : Int) ++ bytesOf (strOfNums ((s.1.drop 2).take ((0 : Int) * 256 + y).toNat))) ++ (s.1.drop 2).drop ((0 : Int) * 256 + y).toNat
  rw [str_size, hlen, bytesOf_str _ ((hb.drop 2).take _), List.append_assoc, List.take_append_drop, Int.toNat_of_nonneg hy.1, hs]
  show 0 :: y :: r = [y / 2 ^ (8 * 1) % 256, y / 2 ^ (8 * 0) % 256] ++ r
  rw [show y / 2 ^ (8 * 1) % 256 = 0 by show y / 256 % 256 = 0; omega, show y / 2 ^ (8 * 0) % 256 = y by show y / 1 % 256 = y; omega]
  rfl
theorem tl_iff (a b : ByteArray) : a.toList = b.toList ↔ a = b := by
  constructor
  · intro h
    rw [Go.ByteArray.toList_eq, Go.ByteArray.toList_eq] at h
    exact ByteArray.ext (Array.toList_inj.mp h)
  · rintro rfl; rfl
theorem drop_iff {α : Type} {l m : List α} {j : Nat} (h1 : j < l.length) (h2 : j < m.length) : l.drop j = m.drop j ↔ l[j] = m[j] ∧ l.drop (j + 1) = m.drop (j + 1) := by
  rw [List.drop_eq_getElem_cons h1, List.drop_eq_getElem_cons h2, List.cons.injEq]
theorem beN_bd (v : Int) : ∀ (d : Nat) (y : Int), y ∈ beN d v → 0 ≤ y ∧ y ≤ 255
  | 0, y, h => by simp [beN] at h
  | d + 1, y, h => by
    rcases List.mem_cons.1 h with rfl | h
    · omega
    · exact beN_bd v d y h
theorem flat8_bd (l : List Int) : ∀ y ∈ flat8 l, 0 ≤ y ∧ y ≤ 255 := by
  intro y hy
  simp only [flat8, List.mem_flatten, List.mem_map] at hy
  obtain ⟨_, ⟨v, _, rfl⟩, h⟩ := hy
  exact beN_bd v 8 y h

structure Codec {α : Type} (one : RS → α × RS) (enc : α → List Int) (ok : α → Prop) : Prop where
  fwd : ∀ x r b, ok x → one ((enc x ++ r, false), b) = (x, ((r, false), b))
  good : ∀ s, (one s).2.1.2 = false → (one s).2.2 = false → s.1.2 = false ∧ s.2 = false
  inv : ∀ s, Byt s.1.1 → (one s).2.1.2 = false → (one s).2.2 = false → s.1.1 = enc (one s).1 ++ (one s).2.1.1 ∧ ok (one s).1 ∧ Byt (one s).2.1.1
def encs {α : Type} (enc : α → List Int) (L : List α) : List Int := (L.map enc).flatten
theorem encs_cons {α : Type} (enc : α → List Int) (x : α) (L : List α) : encs enc (x :: L) = enc x ++ encs enc L := rfl
section
variable {α : Type} {one : RS → α × RS} {enc : α → List Int} {ok : α → Prop}
theorem loop_fwd (hc : Codec one enc ok) : ∀ (L : List α) (r : List Int) (b : Bool) (out : List α), (∀ x ∈ L, ok x) → rLoop one L.length ((encs enc L ++ r, false), b) out = (out ++ L, ((r, false), b))
  | [], r, b, out, _ => by simp [rLoop, encs]
  | x :: L, r, b, out, h => by
    rw [encs_cons, List.append_assoc, List.length_cons, rLoop, hc.fwd x _ b (h x (List.mem_cons_self ..)), loop_fwd hc L r b _ (fun y hy => h y (List.mem_cons_of_mem _ hy))]
    simp
theorem loop_good (hc : Codec one enc ok) : ∀ (n : Nat) (s : RS) (out : List α), (rLoop one n s out).2.1.2 = false → (rLoop one n s out).2.2 = false → s.1.2 = false ∧ s.2 = false
  | 0, s, out, h, h2 => ⟨h, h2⟩
  | n + 1, s, out, h, h2 => by
    rw [rLoop] at h h2
    obtain ⟨g1, g2⟩ := loop_good hc n _ _ h h2
    exact hc.good s g1 g2
theorem loop_inv (hc : Codec one enc ok) : ∀ (n : Nat) (s : RS) (out : List α), Byt s.1.1 → (rLoop one n s out).2.1.2 = false → (rLoop one n s out).2.2 = false → ∃ L, (rLoop one n s out).1 = out ++ L ∧ L.length = n ∧ s.1.1 = encs enc L ++ (rLoop one n s out).2.1.1 ∧ (∀ x ∈ L, ok x) ∧ Byt (rLoop one n s out).2.1.1
  | 0, s, out, hb, _, _ => ⟨[], by simp [rLoop], rfl, by simp [encs, rLoop], by simp, hb⟩
  | n + 1, s, out, hb, h, h2 => by
    rw [rLoop] at h h2 ⊢
    obtain ⟨g1, g2⟩ := loop_good hc n _ _ h h2
    obtain ⟨e, ho, hb2⟩ := hc.inv s hb g1 g2
    obtain ⟨L, q1, q2, q3, q4, q5⟩ := loop_inv hc n _ _ hb2 h h2
    refine ⟨(one s).1 :: L, by rw [q1]; simp, by simp [q2], ?_, ?_, q5⟩
    · rw [e, q3, encs_cons, List.append_assoc, ← q3]
    · intro x hx
      rcases List.mem_cons.1 hx with rfl | hx
      · exact ho
      · exact q4 x hx
theorem list_codec (hc : Codec one enc ok) (m : Int) (hm : 0 ≤ m ∧ m ≤ 100) : Codec (rList one m) (fun L => beN 8 (L.length : Int) ++ encs enc L) (fun L => (L.length : Int) ≤ m ∧ ∀ x ∈ L, ok x) := by
  refine ⟨fun L r b h => ?_, fun s h h2 => ?_, fun s hb h h2 => ?_⟩
  · unfold rList
    have hw : W64 (L.length : Int) := by have := h.1; unfold W64; omega
    simp only [List.append_assoc]
    rw [rInt_be _ _ hw]
    simp only
    rw [if_pos ⟨by omega, h.1⟩, Int.toNat_natCast, loop_fwd hc L r b [] h.2]
    simp
  · unfold rList at h h2
    split at h
    · rename_i c
      rw [if_pos c] at h2
      obtain ⟨g1, g2⟩ := loop_good hc _ _ _ h h2
      exact ⟨(int_ok g1).1, g2⟩
    · rename_i c
      rw [if_neg c] at h2
      simp at h2
  · unfold rList at h h2 ⊢
    split at h
    · rename_i c
      rw [if_pos c] at h2 ⊢
      obtain ⟨g1, g2⟩ := loop_good hc _ _ _ h h2
      obtain ⟨e, hw, hb2⟩ := inv_int hb g1
      obtain ⟨L, q1, q2, q3, q4, q5⟩ := loop_inv hc _ _ _ hb2 h h2
      have hL : (rLoop one (rInt s.1).1.toNat ((rInt s.1).2, s.2) []).1 = L := by simpa using q1
      have hn : (L.length : Int) = (rInt s.1).1 := by omega
      simp only [hL]
      refine ⟨?_, ⟨by omega, q4⟩, q5⟩
      rw [e, hn, List.append_assoc]
      congr 1
    · rename_i c
      rw [if_neg c] at h2
      simp at h2
end
theorem ints_fwd : ∀ (L : List Int) (r : List Int), (∀ x ∈ L, W64 x) → rInts L.length (flat8 L ++ r, false) = (L, (r, false))
  | [], r, _ => by simp [rInts, flat8]
  | x :: L, r, h => by
    rw [flat8_cons, List.append_assoc, List.length_cons, rInts, rInt_be x _ (h x (List.mem_cons_self ..)), ints_fwd L r (fun y hy => h y (List.mem_cons_of_mem _ hy))]
theorem ints_good : ∀ (n : Nat) (s : List Int × Bool), (rInts n s).2.2 = false → s.2 = false
  | 0, s, h => h
  | n + 1, s, h => by
    rw [rInts] at h
    exact (int_ok (ints_good n _ h)).1
theorem ints_inv : ∀ (n : Nat) (s : List Int × Bool), Byt s.1 → (rInts n s).2.2 = false → s.1 = flat8 (rInts n s).1 ++ (rInts n s).2.1 ∧ (∀ x ∈ (rInts n s).1, W64 x) ∧ Byt (rInts n s).2.1
  | 0, s, hb, _ => ⟨by simp [rInts, flat8], by simp [rInts], hb⟩
  | n + 1, s, hb, h => by
    rw [rInts] at h ⊢
    obtain ⟨e, hw, hb2⟩ := inv_int hb (ints_good n _ h)
    obtain ⟨q1, q2, q3⟩ := ints_inv n _ hb2 h
    refine ⟨?_, ?_, q3⟩
    · show s.1 = flat8 ((rInt s).1 :: (rInts n (rInt s).2).1) ++ (rInts n (rInt s).2).2.1
      rw [flat8_cons, List.append_assoc, ← q1]; exact e
    · intro x hx
      rcases List.mem_cons.1 hx with rfl | hx
      · exact hw
      · exact q2 x hx
def eFund (x : S93) : List Int := wd x.f0 ++ flat8 [x.f1, x.f2]
def eAlloc (x : S95) : List Int := flat8 [x.f0, x.f1, x.f2, x.f3, x.f4, x.f5]
def eRate (x : S97) : List Int := flat8 [x.f0, x.f1, x.f2]
def eDraw (x : S102) : List Int := flat8 [x.f0, x.f1]
def eJob (x : S100) : List Int := flat8 [x.f0, x.f1, x.f2, x.f3, x.f4, x.f5, x.f6, x.f7, x.f8, x.f9, x.f10] ++ (beN 8 (x.f11.length : Int) ++ encs eDraw x.f11)
def oFund (x : S93) : Prop := x.f0.size ≤ 16 ∧ W64 x.f1 ∧ W64 x.f2
def oAlloc (x : S95) : Prop := W64 x.f0 ∧ W64 x.f1 ∧ W64 x.f2 ∧ W64 x.f3 ∧ W64 x.f4 ∧ W64 x.f5
def oRate (x : S97) : Prop := W64 x.f0 ∧ W64 x.f1 ∧ W64 x.f2
def oDraw (x : S102) : Prop := W64 x.f0 ∧ W64 x.f1
def oJob (x : S100) : Prop := (W64 x.f0 ∧ W64 x.f1 ∧ W64 x.f2 ∧ W64 x.f3 ∧ W64 x.f4 ∧ W64 x.f5 ∧ W64 x.f6 ∧ W64 x.f7 ∧ W64 x.f8 ∧ W64 x.f9 ∧ W64 x.f10) ∧ ((x.f11.length : Int) ≤ 16 ∧ ∀ d ∈ x.f11, oDraw d)
def oKey (x : ByteArray) : Prop := x.size ≤ 16
theorem key_codec : Codec dKey wd oKey := by
  refine ⟨fun x r b h => ?_, fun s h h2 => ?_, fun s hb h h2 => ?_⟩
  · unfold dKey; simp only; rw [rText_wd _ _ h]; simp only [strOfNums_bytesOf]
  · exact ⟨(text_ok h).1, h2⟩
  · exact inv_text hb h
theorem draw_codec : Codec dDraw eDraw oDraw := by
  refine ⟨fun x r b h => ?_, fun s h h2 => ?_, fun s hb h h2 => ?_⟩
  · have e := ints_fwd [x.f0, x.f1] r (by simp only [List.mem_cons, List.not_mem_nil, or_false, forall_eq_or_imp, forall_eq]; exact h)
    unfold dDraw eDraw; simp only
    rw [show (2 : Nat) = [x.f0, x.f1].length from rfl, e]
    rfl
  · exact ⟨ints_good _ _ h, h2⟩
  · obtain ⟨e, hw, hb2⟩ := ints_inv 2 s.1 hb h
    obtain ⟨y0, y1, hy⟩ : ∃ y0 y1, (rInts 2 s.1).1 = [y0, y1] := ⟨_, _, rfl⟩
    unfold dDraw eDraw oDraw; simp only
    rw [hy] at e hw ⊢
    simp only [List.mem_cons, List.not_mem_nil, or_false, forall_eq_or_imp, forall_eq] at hw
    exact ⟨e, hw, hb2⟩
theorem rate_codec : Codec dRate eRate oRate := by
  refine ⟨fun x r b h => ?_, fun s h h2 => ?_, fun s hb h h2 => ?_⟩
  · have e := ints_fwd [x.f0, x.f1, x.f2] r (by simp only [List.mem_cons, List.not_mem_nil, or_false, forall_eq_or_imp, forall_eq]; exact h)
    unfold dRate eRate; simp only
    rw [show (3 : Nat) = [x.f0, x.f1, x.f2].length from rfl, e]
    rfl
  · exact ⟨ints_good _ _ h, h2⟩
  · obtain ⟨e, hw, hb2⟩ := ints_inv 3 s.1 hb h
    obtain ⟨y0, y1, y2, hy⟩ : ∃ y0 y1 y2, (rInts 3 s.1).1 = [y0, y1, y2] := ⟨_, _, _, rfl⟩
    unfold dRate eRate oRate; simp only
    rw [hy] at e hw ⊢
    simp only [List.mem_cons, List.not_mem_nil, or_false, forall_eq_or_imp, forall_eq] at hw
    exact ⟨e, hw, hb2⟩
theorem alloc_codec : Codec dAlloc eAlloc oAlloc := by
  refine ⟨fun x r b h => ?_, fun s h h2 => ?_, fun s hb h h2 => ?_⟩
  · have e := ints_fwd [x.f0, x.f1, x.f2, x.f3, x.f4, x.f5] r (by simp only [List.mem_cons, List.not_mem_nil, or_false, forall_eq_or_imp, forall_eq]; exact h)
    unfold dAlloc eAlloc; simp only
    rw [show (6 : Nat) = [x.f0, x.f1, x.f2, x.f3, x.f4, x.f5].length from rfl, e]
    rfl
  · exact ⟨ints_good _ _ h, h2⟩
  · obtain ⟨e, hw, hb2⟩ := ints_inv 6 s.1 hb h
    obtain ⟨y0, y1, y2, y3, y4, y5, hy⟩ : ∃ y0 y1 y2 y3 y4 y5, (rInts 6 s.1).1 = [y0, y1, y2, y3, y4, y5] := ⟨_, _, _, _, _, _, rfl⟩
    unfold dAlloc eAlloc oAlloc; simp only
    rw [hy] at e hw ⊢
    simp only [List.mem_cons, List.not_mem_nil, or_false, forall_eq_or_imp, forall_eq] at hw
    exact ⟨e, hw, hb2⟩
theorem fund_codec : Codec dFund eFund oFund := by
  refine ⟨fun x r b h => ?_, fun s h h2 => ?_, fun s hb h h2 => ?_⟩
  · have e := ints_fwd [x.f1, x.f2] r (by simp only [List.mem_cons, List.not_mem_nil, or_false, forall_eq_or_imp, forall_eq]; exact h.2)
    unfold dFund eFund; simp only [List.append_assoc]
    rw [rText_wd _ _ h.1]; simp only
    rw [show (2 : Nat) = [x.f1, x.f2].length from rfl, e]
    simp only [strOfNums_bytesOf]
    rfl
  · exact ⟨(text_ok (ints_good _ _ h)).1, h2⟩
  · have ht := ints_good _ _ h
    obtain ⟨e1, hs, hb1⟩ := inv_text hb ht
    obtain ⟨e, hw, hb2⟩ := ints_inv 2 _ hb1 h
    unfold dFund eFund oFund; simp only
    generalize rText s.1 16 = t at *
    obtain ⟨y0, y1, hy⟩ : ∃ y0 y1, (rInts 2 t.2).1 = [y0, y1] := ⟨_, _, rfl⟩
    rw [hy] at e hw ⊢
    simp only [List.mem_cons, List.not_mem_nil, or_false, forall_eq_or_imp, forall_eq] at hw
    refine ⟨?_, ⟨hs, hw⟩, hb2⟩
    rw [e1, e, List.append_assoc]
    rfl
theorem job_codec : Codec dJob eJob oJob := by
  have hl := list_codec draw_codec 16 (by omega)
  refine ⟨fun x r b h => ?_, fun s h h2 => ?_, fun s hb h h2 => ?_⟩
  · have e := ints_fwd [x.f0, x.f1, x.f2, x.f3, x.f4, x.f5, x.f6, x.f7, x.f8, x.f9, x.f10] ((beN 8 (x.f11.length : Int) ++ encs eDraw x.f11) ++ r) (by simp only [List.mem_cons, List.not_mem_nil, or_false, forall_eq_or_imp, forall_eq]; exact h.1)
    have e2 := hl.fwd x.f11 r b h.2
    unfold dJob eJob; simp only [List.append_assoc] at e e2 ⊢
    rw [show (11 : Nat) = [x.f0, x.f1, x.f2, x.f3, x.f4, x.f5, x.f6, x.f7, x.f8, x.f9, x.f10].length from rfl, e]
    simp only
    rw [e2]
    rfl
  · obtain ⟨g1, g2⟩ := hl.good _ h h2
    exact ⟨ints_good _ _ g1, g2⟩
  · obtain ⟨g1, g2⟩ := hl.good _ h h2
    obtain ⟨e, hw, hb2⟩ := ints_inv 11 s.1 hb g1
    obtain ⟨e2, ho, hb3⟩ := hl.inv _ hb2 h h2
    obtain ⟨y0, y1, y2, y3, y4, y5, y6, y7, y8, y9, y10, hy⟩ := eleven _ (rInts_len 11 s.1)
    unfold dJob eJob oJob
    generalize rList dDraw 16 ((rInts 11 s.1).2, s.2) = D at *
    rw [hy] at e hw ⊢
    simp only [List.mem_cons, List.not_mem_nil, or_false, forall_eq_or_imp, forall_eq] at hw
    refine ⟨?_, ⟨hw, ho⟩, hb3⟩
    rw [e, e2, List.append_assoc]
    rfl

theorem put_in (v : Int) (L : List Int) (n10 nL : Int) : ∀ (d k : Nat) (x0 : List Int), d ≤ 8 → x0.length + d < 1000000 → snap_put.l1 (k + d + 1) x0 v ((d : Int) - 1) L nL n10 = snap_put.l0 k (x0 ++ beN d v) L nL (wrap64 (n10 + 1))
  | 0, k, x0, _, _ => by
    rw [snap_put.l1.eq_2, if_neg (by simp)]; simp [beN]
  | d + 1, k, x0, h, hl => by
    have e1 : wrap64 (8 * (((d + 1 : Nat) : Int) - 1)) = ((8 * d : Nat) : Int) := by unfold wrap64; omega
    have e2 : wrap64 ((((d + 1 : Nat) : Int) - 1) - 1) = (d : Int) - 1 := by unfold wrap64; omega
    have e3 : shr .i64 v ((8 * d : Nat) : Int) = v / 2 ^ (8 * d) := by
      have := shr_small (rfl : shr .i64 v ((8 * d : Nat) : Int) = shr .i64 v ((8 * d : Nat) : Int)) (by show ((8 * d : Nat) : Int) ≤ 64; omega)
      rw [Int.toNat_natCast] at this
      exact this.symm
    rw [show k + (d + 1) + 1 = (k + d + 1) + 1 by omega, snap_put.l1.eq_2, if_pos (by omega), e1, e2, if_pos (by omega), if_pos (by omega), e3, put_in v L n10 nL d k _ (by omega) (by simp; omega)]
    simp [beN]
theorem put_out (L : List Int) (hL : L.length < 10000) : ∀ (n j k : Nat) (x0 : List Int), j + n = L.length → x0.length + 8 * n < 900000 → snap_put.l0 (k + 10 * n + 1) x0 L (L.length : Int) (j : Int) = some (x0 ++ flat8 (L.drop j))
  | 0, j, k, x0, h, _ => by
    rw [Nat.mul_zero, Nat.add_zero, snap_put.l0.eq_2, if_neg (by omega), List.drop_eq_nil_of_le (by omega)]; simp [flat8]
  | n + 1, j, k, x0, h, hl => by
    have hlt : j < L.length := by omega
    have hr : rd L (j : Int) = L[j] := by simp [rd, List.getD_eq_getElem?_getD, hlt]
    have e : wrap64 ((j : Int) + 1) = ((j + 1 : Nat) : Int) := by unfold wrap64; omega
    rw [show k + 10 * (n + 1) + 1 = ((k + 10 * n + 1) + 8 + 1) + 1 by omega, snap_put.l0.eq_2, if_pos (by omega), if_pos (by omega), if_pos (by omega)]
    have := put_in (rd L (j : Int)) L (j : Int) (L.length : Int) 8 (k + 10 * n + 1) x0 (by omega) (by omega)
    rw [show (7 : Int) = ((8 : Nat) : Int) - 1 by omega, this, e, put_out L hL n (j + 1) k _ (by omega) (by rw [List.length_append, beN_len]; omega), hr, List.drop_eq_getElem_cons hlt, flat8_cons, List.append_assoc]
theorem put_f (K : Nat) (x0 L : List Int) (hL : L.length ≤ 12) (hx : x0.length < 100000) (hK : 130 ≤ K) : snap_put.f K x0 L = some (x0 ++ flat8 L) := by
  obtain ⟨k, rfl⟩ : ∃ k, K = k + 10 * L.length + 1 := ⟨K - 10 * L.length - 1, by omega⟩
  exact put_out L (by omega) L.length 0 k x0 (by omega) (by omega)
theorem sword_f (l : List Int) (s : ByteArray) (hl : l.length < 1000000) (hs : s.size ≤ 16) : snap_word.f l s = some (l ++ (beN 2 (s.size : Int) ++ bytesOf s)) := by
  unfold snap_word.f
  rw [if_pos ⟨by omega, by omega⟩]
  have : beN 2 (s.size : Int) = [0, (s.size : Int) % 256] := by
    show [(s.size : Int) / 2 ^ (8 * 1) % 256, (s.size : Int) / 2 ^ (8 * 0) % 256] = _
    rw [show (s.size : Int) / 2 ^ (8 * 1) % 256 = 0 by show (s.size : Int) / 256 % 256 = 0; omega, show (s.size : Int) / 2 ^ (8 * 0) % 256 = (s.size : Int) % 256 by show (s.size : Int) / 1 % 256 = _; omega]
  rw [this]; simp

def Lim (F : List S93) (A : List S95) (R : List S97) (J : List S100) (Ks : List ByteArray) : Prop := (F.length ≤ 8 ∧ A.length ≤ 16 ∧ R.length ≤ 16 ∧ J.length ≤ 16 ∧ Ks.length ≤ 8) ∧ (∀ x ∈ F, x.f0.size ≤ 16) ∧ (∀ x ∈ J, x.f11.length ≤ 16) ∧ ∀ x ∈ Ks, x.size ≤ 16
def tK (Ks : List ByteArray) : List Int := beN 8 (Ks.length : Int) ++ encs wd Ks
def tJ (J : List S100) (Ks : List ByteArray) : List Int := beN 8 (J.length : Int) ++ (encs eJob J ++ tK Ks)
def tR (R : List S97) (J : List S100) (Ks : List ByteArray) : List Int := beN 8 (R.length : Int) ++ (encs eRate R ++ tJ J Ks)
def tA (A : List S95) (R : List S97) (J : List S100) (Ks : List ByteArray) : List Int := beN 8 (A.length : Int) ++ (encs eAlloc A ++ tR R J Ks)
def encT (a0 a1 a2 : Int) (F : List S93) (A : List S95) (R : List S97) (J : List S100) (Ks : List ByteArray) : List Int := flat8 [a0, a1, a2] ++ (beN 8 (F.length : Int) ++ (encs eFund F ++ tA A R J Ks))
theorem flat8_one (v : Int) : flat8 [v] = beN 8 v := by simp [flat8]
theorem flat8_app (a b : List Int) : flat8 (a ++ b) = flat8 a ++ flat8 b := by simp [flat8]
theorem encs_drop {α : Type} (enc : α → List Int) {L : List α} {j : Nat} (h : j < L.length) : encs enc (L.drop j) = enc L[j] ++ encs enc (L.drop (j + 1)) := by
  rw [List.drop_eq_getElem_cons h, encs_cons]
theorem encs_end {α : Type} (enc : α → List Int) {L : List α} {j : Nat} (h : L.length ≤ j) : encs enc (L.drop j) = [] := by
  rw [List.drop_eq_nil_of_le h]; rfl
theorem up1 (j : Nat) (h : j < 1000000) : wrap64 ((j : Int) + 1) = ((j + 1 : Nat) : Int) := by unfold wrap64; omega
theorem rd_at {α : Type} (z : α) (L : List α) (j : Nat) (h : j < L.length) : L.getD ((j : Nat) : Int).toNat z = L[j] := by
  rw [Int.toNat_natCast]; simp [List.getD_eq_getElem?_getD, h]
theorem se_l5 (L : List ByteArray) (hL : L.length ≤ 8) (ho : ∀ x ∈ L, x.size ≤ 16) : ∀ (n j K : Nat) (x4 : List Int), j + n = L.length → x4.length + 18 * n < 90000 → n + 200 ≤ K → snap_Encode.l5 K x4 L (L.length : Int) (j : Int) = some (x4 ++ encs wd (L.drop j), 0)
  | 0, j, K, x4, h, _, hK => by
    obtain ⟨k, rfl⟩ : ∃ k, K = k + 1 := ⟨K - 1, by omega⟩
    rw [snap_Encode.l5.eq_2, if_neg (by omega), encs_end wd (by omega)]
    simp [slices_Clip_byte.f]
  | n + 1, j, K, x4, h, hl, hK => by
    obtain ⟨k, rfl⟩ : ∃ k, K = k + 1 := ⟨K - 1, by omega⟩
    have hlt : j < L.length := by omega
    have hr : rdOf ByteArray.empty L (j : Int) = L[j] := rd_at _ L j hlt
    have hs := ho L[j] (List.getElem_mem hlt)
    have hw : (wd L[j]).length = 2 + L[j].size := wd_len _
    rw [snap_Encode.l5.eq_2, if_pos (by omega), if_pos (by omega), if_pos (by omega), hr, sword_f x4 _ (by omega) hs, Option.bind_some, up1 j (by omega)]
    rw [show (x4 ++ (beN 2 (L[j].size : Int) ++ bytesOf L[j])) = x4 ++ wd L[j] from rfl, se_l5 L hL ho n (j + 1) k _ (by omega) (by rw [List.length_append, hw]; omega) (by omega), encs_drop wd hlt, List.append_assoc]
section
variable (a0 a1 a2 : Int) (F : List S93) (A : List S95) (R : List S97) (J : List S100) (Ks : List ByteArray)
theorem se_l4 (D : List S102) (n jj : Nat) (nJ : Int) (rest : List Int) (hD : D.length ≤ 16) (next : ∀ (K : Nat) (x : List Int), 20 * n + 500 ≤ K → x.length + 400 * n < 40000 → snap_Encode.l3 K x J nJ (wrap64 ((jj : Int) + 1)) a0 a1 a2 F A R J Ks = some (x ++ rest, 0)) : ∀ (m i K : Nat) (x4 : List Int), i + m = D.length → x4.length + 16 * m + 400 * n < 40000 → m + 1 + 20 * n + 500 ≤ K → snap_Encode.l4 K x4 J nJ (jj : Int) D (D.length : Int) (i : Int) a0 a1 a2 F A R J Ks = some (x4 ++ (encs eDraw (D.drop i) ++ rest), 0)
  | 0, i, K, x4, h, hl, hK => by
    obtain ⟨k, rfl⟩ : ∃ k, K = k + 1 := ⟨K - 1, by omega⟩
    rw [snap_Encode.l4.eq_2, if_neg (by omega), encs_end eDraw (by omega), next k x4 (by omega) (by omega)]
    rfl
  | m + 1, i, K, x4, h, hl, hK => by
    obtain ⟨k, rfl⟩ : ∃ k, K = k + 1 := ⟨K - 1, by omega⟩
    have hlt : i < D.length := by omega
    have hr : rd_T102 D (i : Int) = D[i] := rd_at _ D i hlt
    have hf : (flat8 [D[i].f0, D[i].f1]).length = 16 := by rw [flat8_len]; rfl
    rw [snap_Encode.l4.eq_2, if_pos (by omega), if_pos (by omega), if_pos (by omega), hr, put_f k x4 _ (by simp) (by omega) (by omega), Option.bind_some, up1 i (by omega),
      se_l4 D n jj nJ rest hD next m (i + 1) k _ (by omega) (by rw [List.length_append, hf]; omega) (by omega), encs_drop eDraw hlt]
    simp only [eDraw, List.append_assoc]
theorem se_l3 (hl : Lim F A R J Ks) : ∀ (n j K : Nat) (x4 : List Int), j + n = J.length → x4.length + 400 * n < 40000 → 20 * n + 500 ≤ K → snap_Encode.l3 K x4 J (J.length : Int) (j : Int) a0 a1 a2 F A R J Ks = some (x4 ++ (encs eJob (J.drop j) ++ tK Ks), 0)
  | 0, j, K, x4, h, hx, hK => by
    obtain ⟨k, rfl⟩ : ∃ k, K = k + 1 := ⟨K - 1, by omega⟩
    have hf : (flat8 [(Ks.length : Int)]).length = 8 := by rw [flat8_len]; rfl
    have h5 := se_l5 Ks hl.1.2.2.2.2 hl.2.2.2 Ks.length 0 k (x4 ++ flat8 [(Ks.length : Int)]) (by omega) (by have := hl.1; rw [List.length_append, hf]; omega) (by have := hl.1; omega)
    rw [show ((0 : Nat) : Int) = 0 from rfl] at h5
    rw [snap_Encode.l3.eq_2, if_neg (by omega), encs_end eJob (by omega), put_f k x4 _ (by simp) (by omega) (by omega), Option.bind_some, h5, List.drop_zero, flat8_one]
    simp [tK]
  | n + 1, j, K, x4, h, hx, hK => by
    obtain ⟨k, rfl⟩ : ∃ k, K = k + 1 := ⟨K - 1, by omega⟩
    have hlt : j < J.length := by omega
    have hr : rd_T100 J (j : Int) = J[j] := rd_at _ J j hlt
    have hD : J[j].f11.length ≤ 16 := hl.2.2.1 _ (List.getElem_mem hlt)
    have hJ := hl.1.2.2.2.1
    have hf : (flat8 [J[j].f0, J[j].f1, J[j].f2, J[j].f3, J[j].f4, J[j].f5, J[j].f6, J[j].f7, J[j].f8, J[j].f9, J[j].f10, (J[j].f11.length : Int)]).length = 96 := by rw [flat8_len]; rfl
    have next : ∀ (K : Nat) (x : List Int), 20 * n + 500 ≤ K → x.length + 400 * n < 40000 → snap_Encode.l3 K x J (J.length : Int) (wrap64 ((j : Int) + 1)) a0 a1 a2 F A R J Ks = some (x ++ (encs eJob (J.drop (j + 1)) ++ tK Ks), 0) := fun K x hK hx => by
      rw [up1 j (by omega)]; exact se_l3 hl n (j + 1) K x (by omega) hx hK
    have h4 := se_l4 a0 a1 a2 F A R J Ks J[j].f11 n j (J.length : Int) _ hD next J[j].f11.length 0 k (x4 ++ flat8 [J[j].f0, J[j].f1, J[j].f2, J[j].f3, J[j].f4, J[j].f5, J[j].f6, J[j].f7, J[j].f8, J[j].f9, J[j].f10, (J[j].f11.length : Int)]) (by omega) (by rw [List.length_append, hf]; omega) (by omega)
    rw [show ((0 : Nat) : Int) = 0 from rfl] at h4
    rw [snap_Encode.l3.eq_2, if_pos (by omega), if_pos (by omega), if_pos (by omega), hr, put_f k x4 _ (by simp) (by omega) (by omega), Option.bind_some, h4, List.drop_zero, encs_drop eJob hlt]
    have e : flat8 [J[j].f0, J[j].f1, J[j].f2, J[j].f3, J[j].f4, J[j].f5, J[j].f6, J[j].f7, J[j].f8, J[j].f9, J[j].f10, (J[j].f11.length : Int)] = flat8 [J[j].f0, J[j].f1, J[j].f2, J[j].f3, J[j].f4, J[j].f5, J[j].f6, J[j].f7, J[j].f8, J[j].f9, J[j].f10] ++ beN 8 (J[j].f11.length : Int) := by
      rw [← flat8_one, ← flat8_app]; rfl
    rw [e]
    simp only [eJob, List.append_assoc]
theorem se_l2 (hl : Lim F A R J Ks) : ∀ (n j K : Nat) (x4 : List Int), j + n = R.length → x4.length + 24 * n < 30000 → n + 900 ≤ K → snap_Encode.l2 K x4 R (R.length : Int) (j : Int) a0 a1 a2 F A R J Ks = some (x4 ++ (encs eRate (R.drop j) ++ tJ J Ks), 0)
  | 0, j, K, x4, h, hx, hK => by
    obtain ⟨k, rfl⟩ : ∃ k, K = k + 1 := ⟨K - 1, by omega⟩
    have hf : (flat8 [(J.length : Int)]).length = 8 := by rw [flat8_len]; rfl
    have h5 := se_l3 a0 a1 a2 F A R J Ks hl J.length 0 k (x4 ++ flat8 [(J.length : Int)]) (by omega) (by have := hl.1; rw [List.length_append, hf]; omega) (by have := hl.1; omega)
    rw [show ((0 : Nat) : Int) = 0 from rfl] at h5
    rw [snap_Encode.l2.eq_2, if_neg (by omega), encs_end eRate (by omega), put_f k x4 _ (by simp) (by omega) (by omega), Option.bind_some, h5, List.drop_zero, flat8_one]
    simp [tJ]
  | n + 1, j, K, x4, h, hx, hK => by
    obtain ⟨k, rfl⟩ : ∃ k, K = k + 1 := ⟨K - 1, by omega⟩
    have hlt : j < R.length := by omega
    have hr : rd_T97 R (j : Int) = R[j] := rd_at _ R j hlt
    have hR := hl.1.2.2.1
    have hf : (flat8 [R[j].f0, R[j].f1, R[j].f2]).length = 24 := by rw [flat8_len]; rfl
    rw [snap_Encode.l2.eq_2, if_pos (by omega), if_pos (by omega), if_pos (by omega), hr, put_f k x4 _ (by simp) (by omega) (by omega), Option.bind_some, up1 j (by omega),
      se_l2 hl n (j + 1) k _ (by omega) (by rw [List.length_append, hf]; omega) (by omega), encs_drop eRate hlt]
    simp only [eRate, List.append_assoc]
theorem se_l1 (hl : Lim F A R J Ks) : ∀ (n j K : Nat) (x4 : List Int), j + n = A.length → x4.length + 48 * n < 20000 → n + 1000 ≤ K → snap_Encode.l1 K x4 A (A.length : Int) (j : Int) a0 a1 a2 F A R J Ks = some (x4 ++ (encs eAlloc (A.drop j) ++ tR R J Ks), 0)
  | 0, j, K, x4, h, hx, hK => by
    obtain ⟨k, rfl⟩ : ∃ k, K = k + 1 := ⟨K - 1, by omega⟩
    have hf : (flat8 [(R.length : Int)]).length = 8 := by rw [flat8_len]; rfl
    have h5 := se_l2 a0 a1 a2 F A R J Ks hl R.length 0 k (x4 ++ flat8 [(R.length : Int)]) (by omega) (by have := hl.1; rw [List.length_append, hf]; omega) (by have := hl.1; omega)
    rw [show ((0 : Nat) : Int) = 0 from rfl] at h5
    rw [snap_Encode.l1.eq_2, if_neg (by omega), encs_end eAlloc (by omega), put_f k x4 _ (by simp) (by omega) (by omega), Option.bind_some, h5, List.drop_zero, flat8_one]
    simp [tR]
  | n + 1, j, K, x4, h, hx, hK => by
    obtain ⟨k, rfl⟩ : ∃ k, K = k + 1 := ⟨K - 1, by omega⟩
    have hlt : j < A.length := by omega
    have hr : rd_T95 A (j : Int) = A[j] := rd_at _ A j hlt
    have hA := hl.1.2.1
    have hf : (flat8 [A[j].f0, A[j].f1, A[j].f2, A[j].f3, A[j].f4, A[j].f5]).length = 48 := by rw [flat8_len]; rfl
    rw [snap_Encode.l1.eq_2, if_pos (by omega), if_pos (by omega), if_pos (by omega), hr, put_f k x4 _ (by simp) (by omega) (by omega), Option.bind_some, up1 j (by omega),
      se_l1 hl n (j + 1) k _ (by omega) (by rw [List.length_append, hf]; omega) (by omega), encs_drop eAlloc hlt]
    simp only [eAlloc, List.append_assoc]
theorem se_l0 (hl : Lim F A R J Ks) : ∀ (n j K : Nat) (x4 : List Int), j + n = F.length → x4.length + 34 * n < 10000 → n + 1100 ≤ K → snap_Encode.l0 K x4 F (F.length : Int) (j : Int) a0 a1 a2 F A R J Ks = some (x4 ++ (encs eFund (F.drop j) ++ tA A R J Ks), 0)
  | 0, j, K, x4, h, hx, hK => by
    obtain ⟨k, rfl⟩ : ∃ k, K = k + 1 := ⟨K - 1, by omega⟩
    have hf : (flat8 [(A.length : Int)]).length = 8 := by rw [flat8_len]; rfl
    have h5 := se_l1 a0 a1 a2 F A R J Ks hl A.length 0 k (x4 ++ flat8 [(A.length : Int)]) (by omega) (by have := hl.1; rw [List.length_append, hf]; omega) (by have := hl.1; omega)
    rw [show ((0 : Nat) : Int) = 0 from rfl] at h5
    rw [snap_Encode.l0.eq_2, if_neg (by omega), encs_end eFund (by omega), put_f k x4 _ (by simp) (by omega) (by omega), Option.bind_some, h5, List.drop_zero, flat8_one]
    simp [tA]
  | n + 1, j, K, x4, h, hx, hK => by
    obtain ⟨k, rfl⟩ : ∃ k, K = k + 1 := ⟨K - 1, by omega⟩
    have hlt : j < F.length := by omega
    have hr : rd_T93 F (j : Int) = F[j] := rd_at _ F j hlt
    have hF := hl.1.1
    have hs := hl.2.1 _ (List.getElem_mem hlt)
    have hf : (flat8 [F[j].f1, F[j].f2]).length = 16 := by rw [flat8_len]; rfl
    have hw : (wd F[j].f0).length = 2 + F[j].f0.size := wd_len _
    rw [snap_Encode.l0.eq_2, if_pos (by omega), if_pos (by omega), if_pos (by omega), hr, sword_f x4 _ (by omega) hs, Option.bind_some]
    change (snap_put.f k (x4 ++ wd F[j].f0) [F[j].f1, F[j].f2]).bind _ = _
    rw [put_f k _ _ (by simp) (by rw [List.length_append, hw]; omega) (by omega), Option.bind_some, up1 j (by omega),
      se_l0 hl n (j + 1) k _ (by omega) (by rw [List.length_append, List.length_append, hf, hw]; omega) (by omega), encs_drop eFund hlt]
    simp only [eFund, List.append_assoc]
end
theorem ix_Fund__snap_fits_1 : ∀ (L : List S93) (n j K : Nat), L.length ≤ 16 → j + n = L.length → n + 2 ≤ K → ∃ r, slices_IndexFunc_Fund__snap_fits_1.l0 K L (L.length : Int) (j : Int) = some r ∧ (r ≥ 0 ↔ ∃ x ∈ L.drop j, ¬ x.f0.size ≤ 16)
  | L, 0, j, K, hL, h, hK => by
    obtain ⟨k, rfl⟩ : ∃ k, K = k + 1 := ⟨K - 1, by omega⟩
    refine ⟨-1, by rw [slices_IndexFunc_Fund__snap_fits_1.l0.eq_2, if_neg (by omega)], ?_⟩
    rw [List.drop_eq_nil_of_le (by omega)]; simp
  | L, n + 1, j, K, hL, h, hK => by
    obtain ⟨k, rfl⟩ : ∃ k, K = k + 1 := ⟨K - 1, by omega⟩
    have hlt : j < L.length := by omega
    have hr : rd_T93 L (j : Int) = L[j] := rd_at _ L j hlt
    rw [slices_IndexFunc_Fund__snap_fits_1.l0.eq_2, if_pos (by omega), if_pos (by omega), if_pos (by omega), hr]
    unfold snap_fits_1.f
    rw [Option.bind_some]
    by_cases hp : ((L[j].f0.size : Int) : Int) > 16
    · refine ⟨(j : Int), by rw [if_pos (decide_eq_true hp)], ?_⟩
      rw [List.drop_eq_getElem_cons hlt]
      exact ⟨fun _ => ⟨L[j], List.mem_cons_self .., by omega⟩, fun _ => by omega⟩
    · obtain ⟨r, hr2, hi⟩ := ix_Fund__snap_fits_1 L n (j + 1) k hL (by omega) (by omega)
      refine ⟨r, by rw [decide_eq_false hp, if_neg (by simp), up1 j (by omega)]; exact hr2, ?_⟩
      rw [hi, List.drop_eq_getElem_cons hlt]
      constructor
      · rintro ⟨x, hx, hy⟩; exact ⟨x, List.mem_cons_of_mem _ hx, hy⟩
      · rintro ⟨x, hx, hy⟩
        rcases List.mem_cons.1 hx with rfl | hx
        · exact absurd (show _ ≤ 16 by omega) hy
        · exact ⟨x, hx, hy⟩
theorem ct_Fund__snap_fits_1 (L : List S93) (hL : L.length ≤ 16) (K : Nat) (hK : 20 ≤ K) : ∃ b, slices_ContainsFunc_Fund__snap_fits_1.f K L = some b ∧ (b = false ↔ ∀ x ∈ L, x.f0.size ≤ 16) := by
  obtain ⟨r, hr, hi⟩ := ix_Fund__snap_fits_1 L L.length 0 K hL (by omega) (by omega)
  rw [show ((0 : Nat) : Int) = 0 from rfl] at hr
  refine ⟨decide (r ≥ 0), by unfold slices_ContainsFunc_Fund__snap_fits_1.f slices_IndexFunc_Fund__snap_fits_1.f; rw [hr, Option.bind_some], ?_⟩
  rw [List.drop_zero] at hi
  rw [decide_eq_false_iff_not, hi]
  constructor
  · intro h x hx
    exact Decidable.byContradiction fun c => h ⟨x, hx, c⟩
  · rintro h ⟨x, hx, hy⟩; exact hy (h x hx)
theorem ix_Job__snap_fits_2 : ∀ (L : List S100) (n j K : Nat), L.length ≤ 16 → j + n = L.length → n + 2 ≤ K → ∃ r, slices_IndexFunc_Job__snap_fits_2.l0 K L (L.length : Int) (j : Int) = some r ∧ (r ≥ 0 ↔ ∃ x ∈ L.drop j, ¬ x.f11.length ≤ 16)
  | L, 0, j, K, hL, h, hK => by
    obtain ⟨k, rfl⟩ : ∃ k, K = k + 1 := ⟨K - 1, by omega⟩
    refine ⟨-1, by rw [slices_IndexFunc_Job__snap_fits_2.l0.eq_2, if_neg (by omega)], ?_⟩
    rw [List.drop_eq_nil_of_le (by omega)]; simp
  | L, n + 1, j, K, hL, h, hK => by
    obtain ⟨k, rfl⟩ : ∃ k, K = k + 1 := ⟨K - 1, by omega⟩
    have hlt : j < L.length := by omega
    have hr : rd_T100 L (j : Int) = L[j] := rd_at _ L j hlt
    rw [slices_IndexFunc_Job__snap_fits_2.l0.eq_2, if_pos (by omega), if_pos (by omega), if_pos (by omega), hr]
    unfold snap_fits_2.f
    rw [Option.bind_some]
    by_cases hp : ((L[j].f11.length : Int) : Int) > 16
    · refine ⟨(j : Int), by rw [if_pos (decide_eq_true hp)], ?_⟩
      rw [List.drop_eq_getElem_cons hlt]
      exact ⟨fun _ => ⟨L[j], List.mem_cons_self .., by omega⟩, fun _ => by omega⟩
    · obtain ⟨r, hr2, hi⟩ := ix_Job__snap_fits_2 L n (j + 1) k hL (by omega) (by omega)
      refine ⟨r, by rw [decide_eq_false hp, if_neg (by simp), up1 j (by omega)]; exact hr2, ?_⟩
      rw [hi, List.drop_eq_getElem_cons hlt]
      constructor
      · rintro ⟨x, hx, hy⟩; exact ⟨x, List.mem_cons_of_mem _ hx, hy⟩
      · rintro ⟨x, hx, hy⟩
        rcases List.mem_cons.1 hx with rfl | hx
        · exact absurd (show _ ≤ 16 by omega) hy
        · exact ⟨x, hx, hy⟩
theorem ct_Job__snap_fits_2 (L : List S100) (hL : L.length ≤ 16) (K : Nat) (hK : 20 ≤ K) : ∃ b, slices_ContainsFunc_Job__snap_fits_2.f K L = some b ∧ (b = false ↔ ∀ x ∈ L, x.f11.length ≤ 16) := by
  obtain ⟨r, hr, hi⟩ := ix_Job__snap_fits_2 L L.length 0 K hL (by omega) (by omega)
  rw [show ((0 : Nat) : Int) = 0 from rfl] at hr
  refine ⟨decide (r ≥ 0), by unfold slices_ContainsFunc_Job__snap_fits_2.f slices_IndexFunc_Job__snap_fits_2.f; rw [hr, Option.bind_some], ?_⟩
  rw [List.drop_zero] at hi
  rw [decide_eq_false_iff_not, hi]
  constructor
  · intro h x hx
    exact Decidable.byContradiction fun c => h ⟨x, hx, c⟩
  · rintro h ⟨x, hx, hy⟩; exact hy (h x hx)
theorem ix_string__snap_fits_3 : ∀ (L : List ByteArray) (n j K : Nat), L.length ≤ 16 → j + n = L.length → n + 2 ≤ K → ∃ r, slices_IndexFunc_string__snap_fits_3.l0 K L (L.length : Int) (j : Int) = some r ∧ (r ≥ 0 ↔ ∃ x ∈ L.drop j, ¬ x.size ≤ 16)
  | L, 0, j, K, hL, h, hK => by
    obtain ⟨k, rfl⟩ : ∃ k, K = k + 1 := ⟨K - 1, by omega⟩
    refine ⟨-1, by rw [slices_IndexFunc_string__snap_fits_3.l0.eq_2, if_neg (by omega)], ?_⟩
    rw [List.drop_eq_nil_of_le (by omega)]; simp
  | L, n + 1, j, K, hL, h, hK => by
    obtain ⟨k, rfl⟩ : ∃ k, K = k + 1 := ⟨K - 1, by omega⟩
    have hlt : j < L.length := by omega
    have hr : rdOf ByteArray.empty L (j : Int) = L[j] := rd_at _ L j hlt
    rw [slices_IndexFunc_string__snap_fits_3.l0.eq_2, if_pos (by omega), if_pos (by omega), if_pos (by omega), hr]
    unfold snap_fits_3.f
    rw [Option.bind_some]
    by_cases hp : ((L[j].size : Int) : Int) > 16
    · refine ⟨(j : Int), by rw [if_pos (decide_eq_true hp)], ?_⟩
      rw [List.drop_eq_getElem_cons hlt]
      exact ⟨fun _ => ⟨L[j], List.mem_cons_self .., by omega⟩, fun _ => by omega⟩
    · obtain ⟨r, hr2, hi⟩ := ix_string__snap_fits_3 L n (j + 1) k hL (by omega) (by omega)
      refine ⟨r, by rw [decide_eq_false hp, if_neg (by simp), up1 j (by omega)]; exact hr2, ?_⟩
      rw [hi, List.drop_eq_getElem_cons hlt]
      constructor
      · rintro ⟨x, hx, hy⟩; exact ⟨x, List.mem_cons_of_mem _ hx, hy⟩
      · rintro ⟨x, hx, hy⟩
        rcases List.mem_cons.1 hx with rfl | hx
        · exact absurd (show _ ≤ 16 by omega) hy
        · exact ⟨x, hx, hy⟩
theorem ct_string__snap_fits_3 (L : List ByteArray) (hL : L.length ≤ 16) (K : Nat) (hK : 20 ≤ K) : ∃ b, slices_ContainsFunc_string__snap_fits_3.f K L = some b ∧ (b = false ↔ ∀ x ∈ L, x.size ≤ 16) := by
  obtain ⟨r, hr, hi⟩ := ix_string__snap_fits_3 L L.length 0 K hL (by omega) (by omega)
  rw [show ((0 : Nat) : Int) = 0 from rfl] at hr
  refine ⟨decide (r ≥ 0), by unfold slices_ContainsFunc_string__snap_fits_3.f slices_IndexFunc_string__snap_fits_3.f; rw [hr, Option.bind_some], ?_⟩
  rw [List.drop_zero] at hi
  rw [decide_eq_false_iff_not, hi]
  constructor
  · intro h x hx
    exact Decidable.byContradiction fun c => h ⟨x, hx, c⟩
  · rintro h ⟨x, hx, hy⟩; exact hy (h x hx)
theorem fits_f (K : Nat) (hK : 40 ≤ K) (a0 a1 a2 : Int) (F : List S93) (A : List S95) (R : List S97) (J : List S100) (Ks : List ByteArray) : ∃ b, snap_fits.f K a0 a1 a2 F A R J Ks = some b ∧ (b = true ↔ Lim F A R J Ks) := by
  obtain ⟨k, rfl⟩ : ∃ k, K = k + 1 := ⟨K - 1, by omega⟩
  have hT : snap_fits.j0 (k + 1) true a0 a1 a2 F A R J Ks = some false := by rw [snap_fits.j0.eq_2, if_pos rfl]
  unfold snap_fits.f Lim
  by_cases c1 : (F.length : Int) > 8
  · exact ⟨false, by rw [if_pos c1, hT], by simp; omega⟩
  rw [if_neg c1]
  by_cases c2 : (A.length : Int) > 16
  · exact ⟨false, by rw [if_pos c2, hT], by simp; omega⟩
  rw [if_neg c2]
  by_cases c3 : (R.length : Int) > 16
  · exact ⟨false, by rw [if_pos c3, hT], by simp; omega⟩
  rw [if_neg c3]
  by_cases c4 : (J.length : Int) > 16
  · exact ⟨false, by rw [if_pos c4, hT], by simp; omega⟩
  rw [if_neg c4]
  by_cases c5 : (Ks.length : Int) > 8
  · exact ⟨false, by rw [decide_eq_true c5, hT], by simp; omega⟩
  rw [decide_eq_false c5, snap_fits.j0.eq_2, if_neg (by simp)]
  obtain ⟨b1, e1, i1⟩ := ct_Fund__snap_fits_1 F (by omega) k (by omega)
  obtain ⟨b2, e2, i2⟩ := ct_Job__snap_fits_2 J (by omega) k (by omega)
  obtain ⟨b3, e3, i3⟩ := ct_string__snap_fits_3 Ks (by omega) k (by omega)
  have hlen : F.length ≤ 8 ∧ A.length ≤ 16 ∧ R.length ≤ 16 ∧ J.length ≤ 16 ∧ Ks.length ≤ 8 := by omega
  rw [e1, Option.bind_some]
  cases b1 with
  | true => exact ⟨false, by rw [if_pos rfl], ⟨fun h => by simp at h, fun h => by have := i1.2 h.2.1; simp at this⟩⟩
  | false =>
    rw [if_neg (by simp), e2, Option.bind_some]
    cases b2 with
    | true => exact ⟨false, by rw [if_pos rfl], ⟨fun h => by simp at h, fun h => by have := i2.2 h.2.2.1; simp at this⟩⟩
    | false =>
      rw [if_neg (by simp), e3, Option.bind_some]
      cases b3 with
      | true => exact ⟨false, rfl, ⟨fun h => by simp at h, fun h => by have := i3.2 h.2.2.2; simp at this⟩⟩
      | false => exact ⟨true, rfl, ⟨fun _ => ⟨hlen, i1.1 rfl, i2.1 rfl, i3.1 rfl⟩, fun _ => rfl⟩⟩
theorem senc_ok (K : Nat) (hK : 1300 ≤ K) (a0 a1 a2 : Int) (F : List S93) (A : List S95) (R : List S97) (J : List S100) (Ks : List ByteArray) (h : Lim F A R J Ks) : snap_Encode.f K a0 a1 a2 F A R J Ks = some (encT a0 a1 a2 F A R J Ks, 0) := by
  obtain ⟨b, e, i⟩ := fits_f K (by omega) a0 a1 a2 F A R J Ks
  unfold snap_Encode.f
  rw [e, i.2 h, Option.bind_some, if_pos rfl, put_f K [] _ (by simp) (by simp) (by omega), Option.bind_some]
  have hf : (flat8 [a0, a1, a2, (F.length : Int)]).length = 32 := by rw [flat8_len]; rfl
  have h0 := se_l0 a0 a1 a2 F A R J Ks h F.length 0 K ([] ++ flat8 [a0, a1, a2, (F.length : Int)]) (by omega) (by have := h.1; rw [List.length_append, hf]; simp; omega) (by have := h.1; omega)
  rw [show ((0 : Nat) : Int) = 0 from rfl] at h0
  rw [h0, List.drop_zero, List.nil_append]
  have e4 : flat8 [a0, a1, a2, (F.length : Int)] = flat8 [a0, a1, a2] ++ beN 8 (F.length : Int) := by rw [← flat8_one, ← flat8_app]; rfl
  rw [e4]
  simp only [encT, List.append_assoc]
theorem senc_bad (K : Nat) (hK : 1300 ≤ K) (a0 a1 a2 : Int) (F : List S93) (A : List S95) (R : List S97) (J : List S100) (Ks : List ByteArray) (h : ¬ Lim F A R J Ks) : snap_Encode.f K a0 a1 a2 F A R J Ks = some ([], 3) := by
  obtain ⟨b, e, i⟩ := fits_f K (by omega) a0 a1 a2 F A R J Ks
  unfold snap_Encode.f
  have hb : b = false := by
    cases b with
    | false => rfl
    | true => exact absurd (i.1 rfl) h
  rw [e, hb, Option.bind_some, if_neg (by simp)]

theorem eq93 (x y : S93) : ((!((x.f0.toList) == (y.f0.toList))) || ((!((x.f1) == (y.f1))) || (!((x.f2) == (y.f2))))) = false ↔ x = y := by
  cases x; cases y; simp [tl_iff]
theorem ne93 (x y : S93) (h : x ≠ y) : ((!((x.f0.toList) == (y.f0.toList))) || ((!((x.f1) == (y.f1))) || (!((x.f2) == (y.f2))))) = true := by
  cases hq : ((!((x.f0.toList) == (y.f0.toList))) || ((!((x.f1) == (y.f1))) || (!((x.f2) == (y.f2))))) with
  | true => rfl
  | false => exact absurd ((eq93 x y).1 hq) h
theorem eq95 (x y : S95) : ((!((x.f0) == (y.f0))) || ((!((x.f1) == (y.f1))) || ((!((x.f2) == (y.f2))) || ((!((x.f3) == (y.f3))) || ((!((x.f4) == (y.f4))) || (!((x.f5) == (y.f5)))))))) = false ↔ x = y := by
  cases x; cases y; simp [tl_iff]
theorem ne95 (x y : S95) (h : x ≠ y) : ((!((x.f0) == (y.f0))) || ((!((x.f1) == (y.f1))) || ((!((x.f2) == (y.f2))) || ((!((x.f3) == (y.f3))) || ((!((x.f4) == (y.f4))) || (!((x.f5) == (y.f5)))))))) = true := by
  cases hq : ((!((x.f0) == (y.f0))) || ((!((x.f1) == (y.f1))) || ((!((x.f2) == (y.f2))) || ((!((x.f3) == (y.f3))) || ((!((x.f4) == (y.f4))) || (!((x.f5) == (y.f5)))))))) with
  | true => rfl
  | false => exact absurd ((eq95 x y).1 hq) h
theorem eq97 (x y : S97) : ((!((x.f0) == (y.f0))) || ((!((x.f1) == (y.f1))) || (!((x.f2) == (y.f2))))) = false ↔ x = y := by
  cases x; cases y; simp [tl_iff]
theorem ne97 (x y : S97) (h : x ≠ y) : ((!((x.f0) == (y.f0))) || ((!((x.f1) == (y.f1))) || (!((x.f2) == (y.f2))))) = true := by
  cases hq : ((!((x.f0) == (y.f0))) || ((!((x.f1) == (y.f1))) || (!((x.f2) == (y.f2))))) with
  | true => rfl
  | false => exact absurd ((eq97 x y).1 hq) h
theorem eq102 (x y : S102) : ((!((x.f0) == (y.f0))) || (!((x.f1) == (y.f1)))) = false ↔ x = y := by
  cases x; cases y; simp [tl_iff]
theorem ne102 (x y : S102) (h : x ≠ y) : ((!((x.f0) == (y.f0))) || (!((x.f1) == (y.f1)))) = true := by
  cases hq : ((!((x.f0) == (y.f0))) || (!((x.f1) == (y.f1)))) with
  | true => rfl
  | false => exact absurd ((eq102 x y).1 hq) h
theorem sj_l0 (x0 x1 x2 x3 x4 x5 x6 x7 x8 x9 x10 : Int) (D : List S102) (y0 y1 y2 y3 y4 y5 y6 y7 y8 y9 y10 : Int) (E : List S102) (he : D.length = E.length) (hL : D.length < 100000) : ∀ (n j K : Nat), j + n = D.length → n + 1 ≤ K → ∃ b, prebendref13_SameJob.l0 K (j : Int) x0 x1 x2 x3 x4 x5 x6 x7 x8 x9 x10 D y0 y1 y2 y3 y4 y5 y6 y7 y8 y9 y10 E = some b ∧ (b = true ↔ D.drop j = E.drop j)
  | 0, j, K, h, hK => by
    obtain ⟨k, rfl⟩ : ∃ k, K = k + 1 := ⟨K - 1, by omega⟩
    refine ⟨true, by rw [prebendref13_SameJob.l0.eq_2, if_neg (by omega)], ?_⟩
    rw [List.drop_eq_nil_of_le (by omega), List.drop_eq_nil_of_le (by omega)]; simp
  | n + 1, j, K, h, hK => by
    obtain ⟨k, rfl⟩ : ∃ k, K = k + 1 := ⟨K - 1, by omega⟩
    have h1 : j < D.length := by omega
    have h2 : j < E.length := by omega
    have r1 : rd_T102 D (j : Int) = D[j] := rd_at _ D j h1
    have r2 : rd_T102 E (j : Int) = E[j] := rd_at _ E j h2
    rw [prebendref13_SameJob.l0.eq_2, if_pos (by omega), if_pos (by omega), if_pos (by omega), r1, r2, up1 j (by omega)]
    by_cases hc : D[j] = E[j]
    · obtain ⟨b, hb, hi⟩ := sj_l0 x0 x1 x2 x3 x4 x5 x6 x7 x8 x9 x10 D y0 y1 y2 y3 y4 y5 y6 y7 y8 y9 y10 E he hL n (j + 1) k (by omega) (by omega)
      refine ⟨b, by rw [if_neg (by rw [(eq102 _ _).2 hc]; simp)]; exact hb, ?_⟩
      rw [hi, drop_iff h1 h2]
      exact ⟨fun h => ⟨hc, h⟩, fun h => h.2⟩
    · refine ⟨false, by rw [if_pos (ne102 _ _ hc)], ?_⟩
      rw [drop_iff h1 h2]
      exact ⟨fun h => by simp at h, fun h => (hc h.1).elim⟩
theorem sj_f (x y : S100) (K : Nat) (hD : x.f11.length ≤ 100) (hK : 150 ≤ K) : ∃ b, prebendref13_SameJob.f K x.f0 x.f1 x.f2 x.f3 x.f4 x.f5 x.f6 x.f7 x.f8 x.f9 x.f10 x.f11 y.f0 y.f1 y.f2 y.f3 y.f4 y.f5 y.f6 y.f7 y.f8 y.f9 y.f10 y.f11 = some b ∧ (b = true ↔ x = y) := by
  obtain ⟨k, rfl⟩ : ∃ k, K = k + 1 := ⟨K - 1, by omega⟩
  obtain ⟨x0, x1, x2, x3, x4, x5, x6, x7, x8, x9, x10, D⟩ := x
  obtain ⟨y0, y1, y2, y3, y4, y5, y6, y7, y8, y9, y10, E⟩ := y
  simp only at hD ⊢
  have hT : ∀ c, c = true → prebendref13_SameJob.j0 (k + 1) c x0 x1 x2 x3 x4 x5 x6 x7 x8 x9 x10 D y0 y1 y2 y3 y4 y5 y6 y7 y8 y9 y10 E = some false := fun c hc => by rw [prebendref13_SameJob.j0.eq_2, if_pos hc]
  unfold prebendref13_SameJob.f
  simp only [S100.mk.injEq]
  by_cases c0 : x0 = y0
  case neg => exact ⟨false, by rw [if_neg c0]; exact hT _ rfl, ⟨fun h => by simp at h, fun h => (c0 h.1).elim⟩⟩
  rw [if_pos c0]
  by_cases c1 : x1 = y1
  case neg => exact ⟨false, by rw [if_neg c1]; exact hT _ rfl, ⟨fun h => by simp at h, fun h => (c1 h.2.1).elim⟩⟩
  rw [if_pos c1]
  by_cases c2 : x2 = y2
  case neg => exact ⟨false, by rw [if_neg c2]; exact hT _ rfl, ⟨fun h => by simp at h, fun h => (c2 h.2.2.1).elim⟩⟩
  rw [if_pos c2]
  by_cases c3 : x3 = y3
  case neg => exact ⟨false, by rw [if_neg c3]; exact hT _ rfl, ⟨fun h => by simp at h, fun h => (c3 h.2.2.2.1).elim⟩⟩
  rw [if_pos c3]
  by_cases c4 : x4 = y4
  case neg => exact ⟨false, by rw [if_neg c4]; exact hT _ rfl, ⟨fun h => by simp at h, fun h => (c4 h.2.2.2.2.1).elim⟩⟩
  rw [if_pos c4]
  by_cases c5 : x5 = y5
  case neg => exact ⟨false, by rw [if_neg c5]; exact hT _ rfl, ⟨fun h => by simp at h, fun h => (c5 h.2.2.2.2.2.1).elim⟩⟩
  rw [if_pos c5]
  by_cases c6 : x6 = y6
  case neg => exact ⟨false, by rw [if_neg c6]; exact hT _ rfl, ⟨fun h => by simp at h, fun h => (c6 h.2.2.2.2.2.2.1).elim⟩⟩
  rw [if_pos c6]
  by_cases c7 : x7 = y7
  case neg => exact ⟨false, by rw [if_neg c7]; exact hT _ rfl, ⟨fun h => by simp at h, fun h => (c7 h.2.2.2.2.2.2.2.1).elim⟩⟩
  rw [if_pos c7]
  by_cases c8 : x8 = y8
  case neg => exact ⟨false, by rw [if_neg c8]; exact hT _ rfl, ⟨fun h => by simp at h, fun h => (c8 h.2.2.2.2.2.2.2.2.1).elim⟩⟩
  rw [if_pos c8]
  by_cases c9 : x9 = y9
  case neg => exact ⟨false, by rw [if_neg c9]; exact hT _ rfl, ⟨fun h => by simp at h, fun h => (c9 h.2.2.2.2.2.2.2.2.2.1).elim⟩⟩
  rw [if_pos c9]
  by_cases c10 : x10 = y10
  case neg => exact ⟨false, by rw [if_neg c10]; exact hT _ rfl, ⟨fun h => by simp at h, fun h => (c10 h.2.2.2.2.2.2.2.2.2.2.1).elim⟩⟩
  rw [if_pos c10]
  by_cases c11 : (D.length : Int) = (E.length : Int)
  · obtain ⟨b, hb, hi⟩ := sj_l0 x0 x1 x2 x3 x4 x5 x6 x7 x8 x9 x10 D y0 y1 y2 y3 y4 y5 y6 y7 y8 y9 y10 E (by omega) (by omega) D.length 0 k (by omega) (by omega)
    rw [show ((0 : Nat) : Int) = 0 from rfl] at hb
    refine ⟨b, by rw [prebendref13_SameJob.j0.eq_2, if_neg (by simp [c11])]; exact hb, ?_⟩
    rw [hi, List.drop_zero, List.drop_zero]
    exact ⟨fun h => ⟨c0, c1, c2, c3, c4, c5, c6, c7, c8, c9, c10, h⟩, fun h => h.2.2.2.2.2.2.2.2.2.2.2⟩
  · exact ⟨false, hT _ (by simp [bne, c11]), ⟨fun h => by simp at h, fun h => (c11 (by rw [h.2.2.2.2.2.2.2.2.2.2.2])).elim⟩⟩
section
variable (a0 a1 a2 : Int) (F : List S93) (A : List S95) (R : List S97) (J : List S100) (Ks : List ByteArray) (b0 b1 b2 : Int) (F2 : List S93) (A2 : List S95) (R2 : List S97) (J2 : List S100) (Ks2 : List ByteArray)
theorem sm_l4 (hl : F.length ≤ 8 ∧ A.length ≤ 16 ∧ R.length ≤ 16 ∧ J.length ≤ 16 ∧ Ks.length ≤ 8) (he : F.length = F2.length ∧ A.length = A2.length ∧ R.length = R2.length ∧ J.length = J2.length ∧ Ks.length = Ks2.length) : ∀ (n j K : Nat), j + n = Ks.length → n + 20 ≤ K → ∃ b, prebendref13_Same.l4 K (j : Int) a0 a1 a2 F A R J Ks b0 b1 b2 F2 A2 R2 J2 Ks2 = some b ∧ (b = true ↔ (Ks.drop j = Ks2.drop j))
  | 0, j, K, h, hK => by
    obtain ⟨k, rfl⟩ : ∃ k, K = k + 1 := ⟨K - 1, by omega⟩
    exact ⟨true, by rw [prebendref13_Same.l4.eq_2, if_neg (by omega)], by rw [List.drop_eq_nil_of_le (by omega), List.drop_eq_nil_of_le (by omega)]; simp⟩
  | n + 1, j, K, h, hK => by
    obtain ⟨k, rfl⟩ : ∃ k, K = k + 1 := ⟨K - 1, by omega⟩
    have h1 : j < Ks.length := by omega
    have h2 : j < Ks2.length := by omega
    have r1 : rdOf ByteArray.empty Ks (j : Int) = Ks[j] := rd_at _ Ks j h1
    have r2 : rdOf ByteArray.empty Ks2 (j : Int) = Ks2[j] := rd_at _ Ks2 j h2
    rw [prebendref13_Same.l4.eq_2, if_pos (by omega), if_pos (by omega), if_pos (by omega), r1, r2, up1 j (by omega)]
    by_cases hc : Ks[j] = Ks2[j]
    · obtain ⟨b, hb, hi⟩ := sm_l4 hl he n (j + 1) k (by omega) (by omega)
      refine ⟨b, by rw [if_pos (by rw [hc])]; exact hb, ?_⟩
      rw [hi, drop_iff h1 h2]
      exact ⟨fun h => ⟨hc, h⟩, fun h => h.2⟩
    · refine ⟨false, by rw [if_neg (fun q => hc ((tl_iff _ _).1 q))], ?_⟩
      rw [drop_iff h1 h2]
      exact ⟨fun h => by simp at h, fun h => (hc h.1).elim⟩
variable (hj : ∀ x ∈ J, x.f11.length ≤ 16)
include hj in
theorem sm_l3 (hl : F.length ≤ 8 ∧ A.length ≤ 16 ∧ R.length ≤ 16 ∧ J.length ≤ 16 ∧ Ks.length ≤ 8) (he : F.length = F2.length ∧ A.length = A2.length ∧ R.length = R2.length ∧ J.length = J2.length ∧ Ks.length = Ks2.length) : ∀ (n j K : Nat), j + n = J.length → n + 300 ≤ K → ∃ b, prebendref13_Same.l3 K (j : Int) a0 a1 a2 F A R J Ks b0 b1 b2 F2 A2 R2 J2 Ks2 = some b ∧ (b = true ↔ (J.drop j = J2.drop j ∧ Ks = Ks2))
  | 0, j, K, h, hK => by
    obtain ⟨k, rfl⟩ : ∃ k, K = k + 1 := ⟨K - 1, by omega⟩
    obtain ⟨b, hb, hi⟩ := sm_l4 a0 a1 a2 F A R J Ks b0 b1 b2 F2 A2 R2 J2 Ks2 hl he Ks.length 0 k (by omega) (by have := hl; omega)
    rw [show ((0 : Nat) : Int) = 0 from rfl] at hb
    refine ⟨b, by rw [prebendref13_Same.l3.eq_2, if_neg (by omega)]; exact hb, ?_⟩
    rw [hi, List.drop_zero, List.drop_zero, List.drop_eq_nil_of_le (by omega), List.drop_eq_nil_of_le (by omega)]; simp
  | n + 1, j, K, h, hK => by
    obtain ⟨k, rfl⟩ : ∃ k, K = k + 1 := ⟨K - 1, by omega⟩
    have h1 : j < J.length := by omega
    have h2 : j < J2.length := by omega
    have r1 : rd_T100 J (j : Int) = J[j] := rd_at _ J j h1
    have r2 : rd_T100 J2 (j : Int) = J2[j] := rd_at _ J2 j h2
    rw [prebendref13_Same.l3.eq_2, if_pos (by omega), if_pos (by omega), if_pos (by omega), r1, r2, up1 j (by omega)]
    by_cases hc : J[j] = J2[j]
    · obtain ⟨b, hb, hi⟩ := sm_l3 hl he n (j + 1) k (by omega) (by omega)
      obtain ⟨b1, hb1, hi1⟩ := sj_f J[j] J2[j] k (by have := hj _ (List.getElem_mem h1); omega) (by omega)
      have hbt : b1 = true := hi1.2 hc
      subst hbt
      refine ⟨b, by rw [hb1, Option.bind_some, if_pos rfl]; exact hb, ?_⟩
      rw [hi, drop_iff h1 h2]
      exact ⟨fun h => ⟨⟨hc, h.1⟩, h.2⟩, fun h => ⟨h.1.2, h.2⟩⟩
    · obtain ⟨b1, hb1, hi1⟩ := sj_f J[j] J2[j] k (by have := hj _ (List.getElem_mem h1); omega) (by omega)
      have hbt : b1 = false := by cases b1 with
        | false => rfl
        | true => exact absurd (hi1.1 rfl) hc
      subst hbt
      refine ⟨false, by rw [hb1, Option.bind_some, if_neg (by simp)], ?_⟩
      rw [drop_iff h1 h2]
      exact ⟨fun h => by simp at h, fun h => (hc h.1.1).elim⟩
include hj in
theorem sm_l2 (hl : F.length ≤ 8 ∧ A.length ≤ 16 ∧ R.length ≤ 16 ∧ J.length ≤ 16 ∧ Ks.length ≤ 8) (he : F.length = F2.length ∧ A.length = A2.length ∧ R.length = R2.length ∧ J.length = J2.length ∧ Ks.length = Ks2.length) : ∀ (n j K : Nat), j + n = R.length → n + 320 ≤ K → ∃ b, prebendref13_Same.l2 K (j : Int) a0 a1 a2 F A R J Ks b0 b1 b2 F2 A2 R2 J2 Ks2 = some b ∧ (b = true ↔ (R.drop j = R2.drop j ∧ J = J2 ∧ Ks = Ks2))
  | 0, j, K, h, hK => by
    obtain ⟨k, rfl⟩ : ∃ k, K = k + 1 := ⟨K - 1, by omega⟩
    obtain ⟨b, hb, hi⟩ := sm_l3 a0 a1 a2 F A R J Ks b0 b1 b2 F2 A2 R2 J2 Ks2 hj hl he J.length 0 k (by omega) (by have := hl; omega)
    rw [show ((0 : Nat) : Int) = 0 from rfl] at hb
    refine ⟨b, by rw [prebendref13_Same.l2.eq_2, if_neg (by omega)]; exact hb, ?_⟩
    rw [hi, List.drop_zero, List.drop_zero, List.drop_eq_nil_of_le (by omega), List.drop_eq_nil_of_le (by omega)]; simp
  | n + 1, j, K, h, hK => by
    obtain ⟨k, rfl⟩ : ∃ k, K = k + 1 := ⟨K - 1, by omega⟩
    have h1 : j < R.length := by omega
    have h2 : j < R2.length := by omega
    have r1 : rd_T97 R (j : Int) = R[j] := rd_at _ R j h1
    have r2 : rd_T97 R2 (j : Int) = R2[j] := rd_at _ R2 j h2
    rw [prebendref13_Same.l2.eq_2, if_pos (by omega), if_pos (by omega), if_pos (by omega), r1, r2, up1 j (by omega)]
    by_cases hc : R[j] = R2[j]
    · obtain ⟨b, hb, hi⟩ := sm_l2 hl he n (j + 1) k (by omega) (by omega)
      refine ⟨b, by rw [if_neg (by rw [(eq97 _ _).2 hc]; simp)]; exact hb, ?_⟩
      rw [hi, drop_iff h1 h2]
      exact ⟨fun h => ⟨⟨hc, h.1⟩, h.2⟩, fun h => ⟨h.1.2, h.2⟩⟩
    · refine ⟨false, by rw [if_pos (ne97 _ _ hc)], ?_⟩
      rw [drop_iff h1 h2]
      exact ⟨fun h => by simp at h, fun h => (hc h.1.1).elim⟩
include hj in
theorem sm_l1 (hl : F.length ≤ 8 ∧ A.length ≤ 16 ∧ R.length ≤ 16 ∧ J.length ≤ 16 ∧ Ks.length ≤ 8) (he : F.length = F2.length ∧ A.length = A2.length ∧ R.length = R2.length ∧ J.length = J2.length ∧ Ks.length = Ks2.length) : ∀ (n j K : Nat), j + n = A.length → n + 340 ≤ K → ∃ b, prebendref13_Same.l1 K (j : Int) a0 a1 a2 F A R J Ks b0 b1 b2 F2 A2 R2 J2 Ks2 = some b ∧ (b = true ↔ (A.drop j = A2.drop j ∧ R = R2 ∧ J = J2 ∧ Ks = Ks2))
  | 0, j, K, h, hK => by
    obtain ⟨k, rfl⟩ : ∃ k, K = k + 1 := ⟨K - 1, by omega⟩
    obtain ⟨b, hb, hi⟩ := sm_l2 a0 a1 a2 F A R J Ks b0 b1 b2 F2 A2 R2 J2 Ks2 hj hl he R.length 0 k (by omega) (by have := hl; omega)
    rw [show ((0 : Nat) : Int) = 0 from rfl] at hb
    refine ⟨b, by rw [prebendref13_Same.l1.eq_2, if_neg (by omega)]; exact hb, ?_⟩
    rw [hi, List.drop_zero, List.drop_zero, List.drop_eq_nil_of_le (by omega), List.drop_eq_nil_of_le (by omega)]; simp
  | n + 1, j, K, h, hK => by
    obtain ⟨k, rfl⟩ : ∃ k, K = k + 1 := ⟨K - 1, by omega⟩
    have h1 : j < A.length := by omega
    have h2 : j < A2.length := by omega
    have r1 : rd_T95 A (j : Int) = A[j] := rd_at _ A j h1
    have r2 : rd_T95 A2 (j : Int) = A2[j] := rd_at _ A2 j h2
    rw [prebendref13_Same.l1.eq_2, if_pos (by omega), if_pos (by omega), if_pos (by omega), r1, r2, up1 j (by omega)]
    by_cases hc : A[j] = A2[j]
    · obtain ⟨b, hb, hi⟩ := sm_l1 hl he n (j + 1) k (by omega) (by omega)
      refine ⟨b, by rw [if_neg (by rw [(eq95 _ _).2 hc]; simp)]; exact hb, ?_⟩
      rw [hi, drop_iff h1 h2]
      exact ⟨fun h => ⟨⟨hc, h.1⟩, h.2⟩, fun h => ⟨h.1.2, h.2⟩⟩
    · refine ⟨false, by rw [if_pos (ne95 _ _ hc)], ?_⟩
      rw [drop_iff h1 h2]
      exact ⟨fun h => by simp at h, fun h => (hc h.1.1).elim⟩
include hj in
theorem sm_l0 (hl : F.length ≤ 8 ∧ A.length ≤ 16 ∧ R.length ≤ 16 ∧ J.length ≤ 16 ∧ Ks.length ≤ 8) (he : F.length = F2.length ∧ A.length = A2.length ∧ R.length = R2.length ∧ J.length = J2.length ∧ Ks.length = Ks2.length) : ∀ (n j K : Nat), j + n = F.length → n + 360 ≤ K → ∃ b, prebendref13_Same.l0 K (j : Int) a0 a1 a2 F A R J Ks b0 b1 b2 F2 A2 R2 J2 Ks2 = some b ∧ (b = true ↔ (F.drop j = F2.drop j ∧ A = A2 ∧ R = R2 ∧ J = J2 ∧ Ks = Ks2))
  | 0, j, K, h, hK => by
    obtain ⟨k, rfl⟩ : ∃ k, K = k + 1 := ⟨K - 1, by omega⟩
    obtain ⟨b, hb, hi⟩ := sm_l1 a0 a1 a2 F A R J Ks b0 b1 b2 F2 A2 R2 J2 Ks2 hj hl he A.length 0 k (by omega) (by have := hl; omega)
    rw [show ((0 : Nat) : Int) = 0 from rfl] at hb
    refine ⟨b, by rw [prebendref13_Same.l0.eq_2, if_neg (by omega)]; exact hb, ?_⟩
    rw [hi, List.drop_zero, List.drop_zero, List.drop_eq_nil_of_le (by omega), List.drop_eq_nil_of_le (by omega)]; simp
  | n + 1, j, K, h, hK => by
    obtain ⟨k, rfl⟩ : ∃ k, K = k + 1 := ⟨K - 1, by omega⟩
    have h1 : j < F.length := by omega
    have h2 : j < F2.length := by omega
    have r1 : rd_T93 F (j : Int) = F[j] := rd_at _ F j h1
    have r2 : rd_T93 F2 (j : Int) = F2[j] := rd_at _ F2 j h2
    rw [prebendref13_Same.l0.eq_2, if_pos (by omega), if_pos (by omega), if_pos (by omega), r1, r2, up1 j (by omega)]
    by_cases hc : F[j] = F2[j]
    · obtain ⟨b, hb, hi⟩ := sm_l0 hl he n (j + 1) k (by omega) (by omega)
      refine ⟨b, by rw [if_neg (by rw [(eq93 _ _).2 hc]; simp)]; exact hb, ?_⟩
      rw [hi, drop_iff h1 h2]
      exact ⟨fun h => ⟨⟨hc, h.1⟩, h.2⟩, fun h => ⟨h.1.2, h.2⟩⟩
    · refine ⟨false, by rw [if_pos (ne93 _ _ hc)], ?_⟩
      rw [drop_iff h1 h2]
      exact ⟨fun h => by simp at h, fun h => (hc h.1.1).elim⟩
include hj in
theorem same13 (hl : F.length ≤ 8 ∧ A.length ≤ 16 ∧ R.length ≤ 16 ∧ J.length ≤ 16 ∧ Ks.length ≤ 8) (K : Nat) (hK : 400 ≤ K) : ∃ b, prebendref13_Same.f K a0 a1 a2 F A R J Ks b0 b1 b2 F2 A2 R2 J2 Ks2 = some b ∧ (b = true ↔ (a0, a1, a2, F, A, R, J, Ks) = (b0, b1, b2, F2, A2, R2, J2, Ks2)) := by
  obtain ⟨k, rfl⟩ : ∃ k, K = k + 1 := ⟨K - 1, by omega⟩
  have hT : ∀ c, c = true → prebendref13_Same.j0 (k + 1) c a0 a1 a2 F A R J Ks b0 b1 b2 F2 A2 R2 J2 Ks2 = some false := fun c hc => by rw [prebendref13_Same.j0.eq_2, if_pos hc]
  unfold prebendref13_Same.f
  simp only [Prod.mk.injEq]
  by_cases c0 : a0 = b0
  case neg => exact ⟨false, by rw [if_neg c0]; exact hT _ rfl, ⟨fun h => by simp at h, fun h => (c0 h.1).elim⟩⟩
  rw [if_pos c0]
  by_cases c1 : a1 = b1
  case neg => exact ⟨false, by rw [if_neg c1]; exact hT _ rfl, ⟨fun h => by simp at h, fun h => (c1 h.2.1).elim⟩⟩
  rw [if_pos c1]
  by_cases c2 : a2 = b2
  case neg => exact ⟨false, by rw [if_neg c2]; exact hT _ rfl, ⟨fun h => by simp at h, fun h => (c2 h.2.2.1).elim⟩⟩
  rw [if_pos c2]
  by_cases c3 : (F.length : Int) = (F2.length : Int)
  case neg => exact ⟨false, by rw [if_neg c3]; exact hT _ rfl, ⟨fun h => by simp at h, fun h => (c3 (by rw [h.2.2.2.1])).elim⟩⟩
  rw [if_pos c3]
  by_cases c4 : (A.length : Int) = (A2.length : Int)
  case neg => exact ⟨false, by rw [if_neg c4]; exact hT _ rfl, ⟨fun h => by simp at h, fun h => (c4 (by rw [h.2.2.2.2.1])).elim⟩⟩
  rw [if_pos c4]
  by_cases c5 : (R.length : Int) = (R2.length : Int)
  case neg => exact ⟨false, by rw [if_neg c5]; exact hT _ rfl, ⟨fun h => by simp at h, fun h => (c5 (by rw [h.2.2.2.2.2.1])).elim⟩⟩
  rw [if_pos c5]
  by_cases c6 : (J.length : Int) = (J2.length : Int)
  case neg => exact ⟨false, by rw [if_neg c6]; exact hT _ rfl, ⟨fun h => by simp at h, fun h => (c6 (by rw [h.2.2.2.2.2.2.1])).elim⟩⟩
  rw [if_pos c6]
  by_cases c7 : (Ks.length : Int) = (Ks2.length : Int)
  · obtain ⟨b, hb, hi⟩ := sm_l0 a0 a1 a2 F A R J Ks b0 b1 b2 F2 A2 R2 J2 Ks2 hj hl (by omega) F.length 0 k (by omega) (by omega)
    rw [show ((0 : Nat) : Int) = 0 from rfl] at hb
    refine ⟨b, by rw [prebendref13_Same.j0.eq_2, if_neg (by simp [c7])]; exact hb, ?_⟩
    rw [hi, List.drop_zero, List.drop_zero]
    exact ⟨fun h => ⟨c0, c1, c2, h⟩, fun h => h.2.2.2⟩
  · exact ⟨false, hT _ (by simp [bne, c7]), ⟨fun h => by simp at h, fun h => (c7 (by rw [h.2.2.2.2.2.2.2])).elim⟩⟩
end

def OkT (a0 a1 a2 : Int) (F : List S93) (A : List S95) (R : List S97) (J : List S100) (Ks : List ByteArray) : Prop := (W64 a0 ∧ W64 a1 ∧ W64 a2) ∧ ((F.length : Int) ≤ 8 ∧ ∀ x ∈ F, oFund x) ∧ ((A.length : Int) ≤ 16 ∧ ∀ x ∈ A, oAlloc x) ∧ ((R.length : Int) ≤ 16 ∧ ∀ x ∈ R, oRate x) ∧ ((J.length : Int) ≤ 16 ∧ ∀ x ∈ J, oJob x) ∧ ((Ks.length : Int) ≤ 8 ∧ ∀ x ∈ Ks, oKey x)
section
variable {a0 a1 a2 : Int} {F : List S93} {A : List S95} {R : List S97} {J : List S100} {Ks : List ByteArray}
theorem OkT.lim (h : OkT a0 a1 a2 F A R J Ks) : Lim F A R J Ks := by
  obtain ⟨_, h1, h2, h3, h4, h5⟩ := h
  exact ⟨⟨by omega, by omega, by omega, by omega, by omega⟩, fun x hx => (h1.2 x hx).1, fun x hx => by have := (h4.2 x hx).2.1; omega, fun x hx => h5.2 x hx⟩
theorem st_fwd (h : OkT a0 a1 a2 F A R J Ks) (r : List Int) : snapF (encT a0 a1 a2 F A R J Ks ++ r) = if r = [] then (a0, a1, a2, F, A, R, J, Ks, 0) else snapBad := by
  obtain ⟨h0, h1, h2, h3, h4, h5⟩ := h
  have e : encT a0 a1 a2 F A R J Ks ++ r = flat8 [a0, a1, a2] ++ ((beN 8 (F.length : Int) ++ encs eFund F) ++ ((beN 8 (A.length : Int) ++ encs eAlloc A) ++ ((beN 8 (R.length : Int) ++ encs eRate R) ++ ((beN 8 (J.length : Int) ++ encs eJob J) ++ ((beN 8 (Ks.length : Int) ++ encs wd Ks) ++ r))))) := by
    unfold encT tA tR tJ tK; simp only [List.append_assoc]
  have hw : ∀ x ∈ [a0, a1, a2], W64 x := by simp only [List.mem_cons, List.not_mem_nil, or_false, forall_eq_or_imp, forall_eq]; exact h0
  have i0 := ints_fwd [a0, a1, a2] ((beN 8 (F.length : Int) ++ encs eFund F) ++ ((beN 8 (A.length : Int) ++ encs eAlloc A) ++ ((beN 8 (R.length : Int) ++ encs eRate R) ++ ((beN 8 (J.length : Int) ++ encs eJob J) ++ ((beN 8 (Ks.length : Int) ++ encs wd Ks) ++ r))))) hw
  rw [show [a0, a1, a2].length = 3 from rfl] at i0
  have iF := (list_codec fund_codec 8 (by omega)).fwd F ((beN 8 (A.length : Int) ++ encs eAlloc A) ++ ((beN 8 (R.length : Int) ++ encs eRate R) ++ ((beN 8 (J.length : Int) ++ encs eJob J) ++ ((beN 8 (Ks.length : Int) ++ encs wd Ks) ++ r)))) false h1
  have iA := (list_codec alloc_codec 16 (by omega)).fwd A ((beN 8 (R.length : Int) ++ encs eRate R) ++ ((beN 8 (J.length : Int) ++ encs eJob J) ++ ((beN 8 (Ks.length : Int) ++ encs wd Ks) ++ r))) false h2
  have iR := (list_codec rate_codec 16 (by omega)).fwd R ((beN 8 (J.length : Int) ++ encs eJob J) ++ ((beN 8 (Ks.length : Int) ++ encs wd Ks) ++ r)) false h3
  have iJ := (list_codec job_codec 16 (by omega)).fwd J ((beN 8 (Ks.length : Int) ++ encs wd Ks) ++ r) false h4
  have iK := (list_codec key_codec 8 (by omega)).fwd Ks r false h5
  rw [e]
  generalize flat8 [a0, a1, a2] ++ ((beN 8 (F.length : Int) ++ encs eFund F) ++ ((beN 8 (A.length : Int) ++ encs eAlloc A) ++ ((beN 8 (R.length : Int) ++ encs eRate R) ++ ((beN 8 (J.length : Int) ++ encs eJob J) ++ ((beN 8 (Ks.length : Int) ++ encs wd Ks) ++ r))))) = l at *
  have qF := (show sF l = rList dFund 8 ((rInts 3 (l, false)).2, false) from rfl)
  rw [i0] at qF
  replace qF := qF.trans iF
  have qA := (show sA l = rList dAlloc 16 (sF l).2 from rfl)
  rw [qF] at qA
  replace qA := qA.trans iA
  have qR := (show sR l = rList dRate 16 (sA l).2 from rfl)
  rw [qA] at qR
  replace qR := qR.trans iR
  have qJ := (show sJ l = rList dJob 16 (sR l).2 from rfl)
  rw [qR] at qJ
  replace qJ := qJ.trans iJ
  have qK := (show sK l = rList dKey 8 (sJ l).2 from rfl)
  rw [qJ] at qK
  replace qK := qK.trans iK
  unfold snapF
  rw [qK, qJ, qR, qA, qF, i0]
  by_cases hr : r = []
  · rw [if_pos hr, if_pos ⟨rfl, by simp [rEnd, hr]⟩]; rfl
  · rw [if_neg hr, if_neg (by simp [rEnd, hr])]
theorem st_cases (l : List Int) : snapF l = snapBad ∨ (snapF l).2.2.2.2.2.2.2.2 = 0 := by
  unfold snapF
  split
  · exact .inr rfl
  · exact .inl rfl
theorem st_inv (l : List Int) (hb : Byt l) (h : (snapF l).2.2.2.2.2.2.2.2 = 0) : ∃ a0 a1 a2 F A R J Ks, snapF l = (a0, a1, a2, F, A, R, J, Ks, 0) ∧ l = encT a0 a1 a2 F A R J Ks ∧ OkT a0 a1 a2 F A R J Ks := by
  have hc : (sK l).2.2 = false ∧ rEnd (sK l).2.1 = true := by
    refine Decidable.byContradiction fun c => ?_
    unfold snapF at h
    rw [if_neg c] at h
    simp [snapBad] at h
  have cF := list_codec fund_codec 8 (by omega)
  have cA := list_codec alloc_codec 16 (by omega)
  have cR := list_codec rate_codec 16 (by omega)
  have cJ := list_codec job_codec 16 (by omega)
  have cK := list_codec key_codec 8 (by omega)
  have c4 : (sK l).2.1.2 = false ∧ (sK l).2.1.1 = [] := by
    have := hc.2
    unfold rEnd at this
    simpa using this
  have gK := cK.good (sJ l).2 c4.1 hc.1
  have gJ := cJ.good (sR l).2 gK.1 gK.2
  have gR := cR.good (sA l).2 gJ.1 gJ.2
  have gA := cA.good (sF l).2 gR.1 gR.2
  have gF := cF.good ((rInts 3 (l, false)).2, false) gA.1 gA.2
  obtain ⟨e0, w0, b0⟩ := ints_inv 3 (l, false) hb gF.1
  obtain ⟨eF, wF, bF⟩ := cF.inv ((rInts 3 (l, false)).2, false) b0 gA.1 gA.2
  obtain ⟨eA, wA, bA⟩ := cA.inv (sF l).2 bF gR.1 gR.2
  obtain ⟨eR, wR, bR⟩ := cR.inv (sA l).2 bA gJ.1 gJ.2
  obtain ⟨eJ, wJ, bJ⟩ := cJ.inv (sR l).2 bR gK.1 gK.2
  obtain ⟨eK, wK, bK⟩ := cK.inv (sJ l).2 bJ c4.1 hc.1
  obtain ⟨a0, a1, a2, hy⟩ := three _ (rInts_len 3 (l, false))
  rw [hy] at e0 w0
  simp only [List.mem_cons, List.not_mem_nil, or_false, forall_eq_or_imp, forall_eq] at w0
  refine ⟨a0, a1, a2, (sF l).1, (sA l).1, (sR l).1, (sJ l).1, (sK l).1, ?_, ?_, ⟨w0, wF, wA, wR, wJ, wK⟩⟩
  · unfold snapF
    rw [if_pos hc, hy]; rfl
  · have e0' : l = flat8 [a0, a1, a2] ++ (rInts 3 (l, false)).2.1 := e0
    change (rInts 3 (l, false)).2.1 = beN 8 ((sF l).1.length : Int) ++ encs eFund (sF l).1 ++ (sF l).2.1.1 at eF
    change (sF l).2.1.1 = beN 8 ((sA l).1.length : Int) ++ encs eAlloc (sA l).1 ++ (sA l).2.1.1 at eA
    change (sA l).2.1.1 = beN 8 ((sR l).1.length : Int) ++ encs eRate (sR l).1 ++ (sR l).2.1.1 at eR
    change (sR l).2.1.1 = beN 8 ((sJ l).1.length : Int) ++ encs eJob (sJ l).1 ++ (sJ l).2.1.1 at eJ
    change (sJ l).2.1.1 = beN 8 ((sK l).1.length : Int) ++ encs wd (sK l).1 ++ (sK l).2.1.1 at eK
    rw [c4.2, List.append_nil] at eK
    rw [eK] at eJ
    rw [eJ] at eR
    rw [eR] at eA
    rw [eA] at eF
    rw [eF] at e0'
    refine e0'.trans ?_
    unfold encT tA tR tJ tK
    simp only [List.append_assoc]
theorem encs_bd {α : Type} {enc : α → List Int} (h : ∀ x, Byt (enc x)) (L : List α) : Byt (encs enc L) := by
  intro y hy
  simp only [encs, List.mem_flatten, List.mem_map] at hy
  obtain ⟨_, ⟨v, _, rfl⟩, h2⟩ := hy
  exact h v y h2
theorem Byt.app {a b : List Int} (ha : Byt a) (hb : Byt b) : Byt (a ++ b) := fun y hy => by
  rcases List.mem_append.1 hy with h | h
  · exact ha y h
  · exact hb y h
theorem wd_bd (s : ByteArray) : Byt (wd s) := fun y h => by
  rcases List.mem_append.1 h with h | h
  · exact beN_bd _ 2 y h
  · obtain ⟨b, _, rfl⟩ := List.mem_map.1 h
    have := UInt8.toNat_lt b
    omega
theorem encT_bd (a0 a1 a2 : Int) (F : List S93) (A : List S95) (R : List S97) (J : List S100) (Ks : List ByteArray) : Byt (encT a0 a1 a2 F A R J Ks) := by
  have f8 : ∀ l, Byt (flat8 l) := flat8_bd
  have b8 : ∀ v, Byt (beN 8 v) := fun v => beN_bd v 8
  unfold encT tA tR tJ tK
  refine (f8 _).app ((b8 _).app ((encs_bd (fun x => (wd_bd _).app (f8 _)) F).app ((b8 _).app ((encs_bd (fun x => f8 _) A).app ((b8 _).app ((encs_bd (fun x => f8 _) R).app ((b8 _).app ((encs_bd (fun x => (f8 _).app ((b8 _).app (encs_bd (fun x => f8 _) _))) J).app ((b8 _).app (encs_bd wd_bd Ks))))))))))
theorem encs_len {α : Type} {enc : α → List Int} (L : List α) (m : Nat) (h : ∀ x ∈ L, (enc x).length ≤ m) : (encs enc L).length ≤ m * L.length := by
  induction L with
  | nil => simp [encs]
  | cons x L ih =>
    rw [encs_cons, List.length_append, List.length_cons, Nat.mul_add]
    have h1 := h x (List.mem_cons_self ..)
    have h2 := ih (fun y hy => h y (List.mem_cons_of_mem _ hy))
    omega
theorem encT_len (h : Lim F A R J Ks) : 64 ≤ (encT a0 a1 a2 F A R J Ks).length ∧ (encT a0 a1 a2 F A R J Ks).length < 100000 := by
  have h1 : (encs eFund F).length ≤ 34 * F.length := encs_len F 34 (fun x hx => by have := h.2.1 x hx; unfold eFund; rw [List.length_append, wd_len, flat8_len]; simp; omega)
  have h2 : (encs eAlloc A).length ≤ 48 * A.length := encs_len A 48 (fun x _ => by unfold eAlloc; rw [flat8_len]; simp)
  have h3 : (encs eRate R).length ≤ 24 * R.length := encs_len R 24 (fun x _ => by unfold eRate; rw [flat8_len]; simp)
  have h4 : (encs eJob J).length ≤ 352 * J.length := encs_len J 352 (fun x hx => by
    have h5 := h.2.2.1 x hx
    have h6 : (encs eDraw x.f11).length ≤ 16 * x.f11.length := encs_len x.f11 16 (fun x _ => by unfold eDraw; rw [flat8_len]; simp)
    unfold eJob; rw [List.length_append, List.length_append, flat8_len, beN_len]; simp only [List.length_cons, List.length_nil]; omega)
  have h7 : (encs wd Ks).length ≤ 18 * Ks.length := encs_len Ks 18 (fun x hx => by have := h.2.2.2 x hx; rw [wd_len]; omega)
  have h8 := h.1
  unfold encT tA tR tJ tK
  simp only [List.length_append, flat8_len, beN_len, List.length_cons, List.length_nil]
  omega
end

theorem wfW (x : Int) (h : (Lit.int .i64 x).wf = true) : W64 x := by
  unfold W64; simpa [Lit.wf, IntKind.min, IntKind.max, IntKind.signed, IntKind.bits] using h
theorem wfB (x : Int) (h : (Lit.int .u8 x).wf = true) : 0 ≤ x ∧ x ≤ 255 := by
  simpa [Lit.wf, IntKind.min, IntKind.max, IntKind.signed, IntKind.bits] using h
theorem okT_of {a0 a1 a2 : Int} {F : List S93} {A : List S95} {R : List S97} {J : List S100} {Ks : List ByteArray} (hl : Lim F A R J Ks) (h0 : (Lit.int .i64 a0).wf = true) (h1 : (Lit.int .i64 a1).wf = true) (h2 : (Lit.int .i64 a2).wf = true) (hF : ∀ y ∈ F, g93 y) (hA : ∀ y ∈ A, g95 y) (hR : ∀ y ∈ R, g97 y) (hJ : ∀ y ∈ J, g100 y) : OkT a0 a1 a2 F A R J Ks := by
  obtain ⟨⟨l1, l2, l3, l4, l5⟩, p1, p2, p3⟩ := hl
  refine ⟨⟨wfW _ h0, wfW _ h1, wfW _ h2⟩, ⟨by omega, fun x hx => ⟨p1 x hx, ?_⟩⟩, ⟨by omega, fun x hx => ?_⟩, ⟨by omega, fun x hx => ?_⟩, ⟨by omega, fun x hx => ⟨?_, by have := p2 x hx; omega, fun d hd => ?_⟩⟩, ⟨by omega, fun x hx => p3 x hx⟩⟩
  · obtain ⟨_, g1, g2⟩ := hF x hx
    exact ⟨wfW _ g1, wfW _ g2⟩
  · obtain ⟨g0, g1, g2, g3, g4, g5⟩ := hA x hx
    exact ⟨wfW _ g0, wfW _ g1, wfW _ g2, wfW _ g3, wfW _ g4, wfW _ g5⟩
  · obtain ⟨g0, g1, g2⟩ := hR x hx
    exact ⟨wfW _ g0, wfW _ g1, wfW _ g2⟩
  · obtain ⟨g0, g1, g2, g3, g4, g5, g6, g7, g8, g9, g10, _⟩ := hJ x hx
    exact ⟨wfW _ g0, wfW _ g1, wfW _ g2, wfW _ g3, wfW _ g4, wfW _ g5, wfW _ g6, wfW _ g7, wfW _ g8, wfW _ g9, wfW _ g10⟩
  · obtain ⟨g0, g1, g2, g3, g4, g5, g6, g7, g8, g9, g10, g11⟩ := hJ x hx
    obtain ⟨d0, d1⟩ := g11.2 d hd
    exact ⟨wfW _ d0, wfW _ d1⟩
theorem awake13 : ∀ k, 1350 ≤ k → prebendlaw13_awake.f k = some true := by
  intro k hk
  obtain ⟨j, rfl⟩ : ∃ j, k = 1350 + j := ⟨k - 1350, by omega⟩
  clear hk
  induction j with
  | zero => decide +kernel
  | succ j ih => exact prebendlaw13_awake.mono _ _ ih
theorem sDec_f (l : List Int) (hl : l.length < 140737488355328) (hb : Byt l) : snap_Decode.f l = some (snapF l) := if_pos ⟨hl, hb⟩

theorem sback_j1 (K : Nat) (hK : 1400 ≤ K) (l : List Int) (hl : l.length < 140737488355328) (hb : Byt l) : prebendlaw13_SnapBack.j1 K l = some true := by
  obtain ⟨k, rfl⟩ : ∃ k, K = k + 1 := ⟨K - 1, by omega⟩
  rw [prebendlaw13_SnapBack.j1.eq_2, sDec_f l hl hb, Option.bind_some]
  rcases st_cases l with h | h
  · rw [h, if_neg (by decide), awake13 k (by omega), Option.bind_some, if_pos rfl]
    obtain ⟨b, hb2, hi⟩ := same13 0 0 0 [] [] [] [] [] 0 0 0 [] [] [] [] [] (by simp) (by simp) k (by omega)
    have : b = true := hi.2 rfl
    subst this
    show (prebendref13_Same.f k 0 0 0 [] [] [] [] [] 0 0 0 [] [] [] [] []).bind _ = _
    rw [hb2]; rfl
  · obtain ⟨a0, a1, a2, F, A, R, J, Ks, hd, he, ho⟩ := st_inv l hb h
    rw [hd, if_pos rfl]
    simp only
    rw [senc_ok k (by omega) a0 a1 a2 F A R J Ks ho.lim, Option.bind_some, awake13 k (by omega), Option.bind_some, if_pos rfl, if_pos rfl, ← he]
    simp
theorem cut_bad {a0 a1 a2 : Int} {F : List S93} {A : List S95} {R : List S97} {J : List S100} {Ks : List ByteArray} (ho : OkT a0 a1 a2 F A R J Ks) (n : Nat) (hn : n < (encT a0 a1 a2 F A R J Ks).length) : snapF ((encT a0 a1 a2 F A R J Ks).take n) = snapBad := by
  have hbd : Byt (encT a0 a1 a2 F A R J Ks) := encT_bd _ _ _ _ _ _ _ _
  rcases st_cases ((encT a0 a1 a2 F A R J Ks).take n) with q | q
  · exact q
  · exfalso
    obtain ⟨b0, b1, b2, F2, A2, R2, J2, Ks2, qd, qe, qo⟩ := st_inv _ (hbd.take _) q
    have d1 := st_fwd ho []
    rw [if_pos rfl, List.append_nil] at d1
    generalize encT a0 a1 a2 F A R J Ks = E at *
    have e2 : E = encT b0 b1 b2 F2 A2 R2 J2 Ks2 ++ E.drop n := by rw [← qe, List.take_append_drop]
    have hne : E.drop n ≠ [] := by
      intro hz
      have := congrArg List.length hz
      rw [List.length_drop] at this
      simp at this
      omega
    have := st_fwd qo (E.drop n)
    rw [if_neg hne, ← e2, d1] at this
    simp [snapBad] at this
theorem SnapBack : prebendlaw13_SnapBack.Pure := by
  intro a0 a1 a2 F A R J Ks l1 m c h0 h1 h2 hF hA hR hJ hK g1 y1 g2 g3
  refine ⟨1500, ?_⟩
  have hb1 : Byt l1 := fun x hx => wfB x (g1.2 x hx)
  have hJ1 := fun K hK => sback_j1 K hK l1 (by omega) hb1
  unfold prebendlaw13_SnapBack.f
  by_cases h : Lim F A R J Ks
  · have ho := okT_of h h0 h1 h2 hF.2 hA.2 hR.2 hJ.2
    rw [senc_ok 1500 (by omega) a0 a1 a2 F A R J Ks h, Option.bind_some, if_pos rfl]
    have hlen := encT_len (a0 := a0) (a1 := a1) (a2 := a2) h
    have hbd : Byt (encT a0 a1 a2 F A R J Ks) := encT_bd _ _ _ _ _ _ _ _
    have hd := st_fwd ho []
    rw [if_pos rfl, List.append_nil] at hd
    have hx := st_fwd ho [m]
    rw [if_neg (by simp)] at hx
    have hcut := cut_bad ho
    generalize encT a0 a1 a2 F A R J Ks = E at *
    simp only
    rw [sDec_f E (by omega) hbd, Option.bind_some, Option.bind_some, if_pos (by simp; omega), Option.bind_some, if_pos (by simp; omega), List.nil_append]
    have hbm : Byt (E ++ [m]) := fun x hx => by
      rcases List.mem_append.1 hx with h | h
      · exact hbd x h
      · rw [List.mem_singleton] at h; rw [h]; exact wfB m g2
    rw [sDec_f (E ++ [m]) (by simp; omega) hbm, Option.bind_some, hd, hx, if_pos rfl]
    obtain ⟨b, hb2, hi⟩ := same13 a0 a1 a2 F A R J Ks a0 a1 a2 F A R J Ks h.2.2.1 h.1 1500 (by omega)
    have hbt : b = true := hi.2 rfl
    subst hbt
    simp only
    rw [hb2, Option.bind_some, if_pos rfl, if_pos (show snapBad.2.2.2.2.2.2.2.2 = 3 from rfl), prebendlaw13_SnapBack.j0.eq_2, if_neg (by simp; intro h; subst h; simp at hlen), if_neg (by omega)]
    have hc : 0 ≤ c ∧ c ≤ 65535 := by simpa [Lit.wf, IntKind.min, IntKind.max, IntKind.signed, IntKind.bits] using g3
    have e1 : wrap64 c = c := by unfold wrap64; omega
    have e2 : 0 ≤ Int.tmod c (E.length : Int) ∧ Int.tmod c (E.length : Int) < (E.length : Int) := by
      rw [Int.tmod_eq_emod_of_nonneg hc.1]
      exact ⟨Int.emod_nonneg _ (by omega), Int.emod_lt_of_pos _ (by omega)⟩
    rw [e1, if_pos e2.1, if_pos (by omega), sDec_f _ (by rw [List.length_take]; omega) (hbd.take _), Option.bind_some, hcut _ (by omega), if_pos (show snapBad.2.2.2.2.2.2.2.2 = 3 from rfl)]
    exact hJ1 _ (by omega)
  · rw [senc_bad 1500 (by omega) a0 a1 a2 F A R J Ks h, Option.bind_some, if_neg (by decide)]
    exact hJ1 _ (by omega)

end Go.Proofs.Ytjmkpcnekghmhaa.Pure
end
section
namespace Go.Proofs.Ytjmkpcnekghmhaa.Rd
open Go.ChangeShapes Go.WideShapes Go.Deep Go.RowKit Go.Proofs.YtjmkpcnekghmhaaW.PrintWords
set_option linter.unusedVariables false
def Rds {α : Type} (P : Program) (d : Kd α) (T : TypeId) (good : α → Prop) : Prop :=
  ∀ (H : Type) (enc : TypeId × Value → H) (w : World) (base : Nat) (spare : Nat → Bool) (held : Bool) (n : Nat) (cs : List Value) (y : DataW H × List MemPlace),
    DataW.trod enc P w base spare held n T cs = some y → ∃ x, d.K w x cs ∧ good x
theorem rds_int {P : Program} {T : TypeId} {k : IntKind} (ht : P.underlying T = some (.int k)) : Rds P (Kd.int k) T (fun x => (Lit.int k x).wf = true) := by
  intro H enc w base spare held n cs y h
  obtain ⟨m, rfl, _, hw⟩ := DataW.trod_int ht h
  exact ⟨m, rfl, hw⟩
theorem rds_string {P : Program} {T : TypeId} (ht : P.underlying T = some .string) : Rds P Kd.string T (fun s => s.size ≤ maxLen) := by
  intro H enc w base spare held n cs y h
  obtain ⟨m, rfl, _, hw⟩ := DataW.trod_string ht h
  exact ⟨m, rfl, hw⟩
theorem rds_slice {α : Type} {P : Program} {d : Kd α} {T e : TypeId} {good : α → Prop} (ht : P.underlying T = some (.slice e)) (hc : P.cellsOf e = d.sz) (hr : Rds P d e good) :
    Rds P (Kd.slice e d) T (fun xs => xs.length ≤ maxLen ∧ ∀ x ∈ xs, good x) := by
  intro H enc w base spare held n cs y h
  rcases open_slice ht h with ⟨rfl, _⟩ | ⟨a, len, cap, m, n', D, Pl, rfl, hb, hl, hm, hmm, _, hi⟩
  · exact ⟨[], ⟨none, 0, rfl, Nat.le_refl _, rfl, by simp, fun h0 => absurd h0 (by simp)⟩, by simp, by simp⟩
  · have hlm : len ≤ m := by rw [hmm]; split <;> omega
    have step : ∀ l, l ≤ len → ∃ xs : List α, xs.length = l ∧ (∀ x ∈ xs, good x) ∧ ∀ j p, xs[j]? = some p → ∃ c, w.cells? base (a.add (j * d.sz)) d.sz = some c ∧ d.K w p c := by
      intro l
      induction l with
      | zero => intro _; exact ⟨[], rfl, by simp, by simp⟩
      | succ l ih =>
        intro hl1
        obtain ⟨xs, hx, hg, hj⟩ := ih (by omega)
        obtain ⟨c, h1, h2⟩ := hi l (by omega)
        obtain ⟨x, k, g⟩ := hr _ _ _ _ _ _ _ _ _ h2
        rw [hc] at h1
        refine ⟨xs ++ [x], by simp [hx], ?_, ?_⟩
        · intro z hz
          rcases List.mem_append.1 hz with hz | hz
          · exact hg z hz
          · rw [List.mem_singleton.1 hz]; exact g
        · intro j p hp
          rcases Nat.lt_or_ge j xs.length with hlt | hge
          · rw [List.getElem?_append_left hlt] at hp; exact hj j p hp
          · have hjl : j = l := by
              have := (List.getElem?_eq_some_iff.1 hp).1
              rw [List.length_append, List.length_singleton] at this
              omega
            subst hjl
            rw [List.getElem?_append_right hge, hx, Nat.sub_self] at hp
            simp at hp
            subst hp
            exact ⟨c, h1, k⟩
    obtain ⟨xs, hx, hg, hj⟩ := step len (Nat.le_refl _)
    refine ⟨xs, ⟨some a, cap, by rw [hx], by omega, rfl, by rw [hx]; unfold maxLen at hm; omega, fun _ => ⟨a, rfl, fun j p hp => ?_⟩⟩, by rw [hx]; omega, hg⟩
    obtain ⟨c, h1, k⟩ := hj j p hp
    refine ⟨c, d.K_len k, k, fun i u hu => ?_⟩
    obtain ⟨_, hcl, hat⟩ := World.cells?_some h1
    have hil : i < d.sz := by have := (List.getElem?_eq_some_iff.1 hu).1; omega
    rw [← Go.Deep.add_add, hat i hil, hu]
theorem pair_mk {α β : Type} {a : Kd α} {b : Kd β} {w : World} {x : α} {y : β} {cs : List Value} {o : Nat} (h1 : a.K w x ((cs.drop o).take a.sz)) (h2 : b.K w y (cs.drop (o + a.sz))) : (Kd.pair a b).K w (x, y) (cs.drop o) :=
  ⟨_, _, by rw [← List.drop_drop]; exact (List.take_append_drop a.sz (cs.drop o)).symm, h1, h2⟩
theorem last_mk {α : Type} {a : Kd α} {w : World} {x : α} {cs : List Value} {o : Nat} (hl : cs.length = o + a.sz) (h1 : a.K w x ((cs.drop o).take a.sz)) : a.K w x (cs.drop o) := by
  rwa [List.take_of_length_le (by rw [List.length_drop]; omega)] at h1
theorem field {H : Type} {enc : TypeId × Value → H} {P : Program} {w : World} {base : Nat} {spare : Nat → Bool} {held : Bool} {n : Nat} {cs : List Value} {fs : Array Field} {xs : List (DataW H × List MemPlace)} (hx : xs.length = fs.size)
    (hf : ∀ (i : Nat) (f : Field), fs[i]? = some f → DataW.trod enc P w base spare held n f.type ((cs.drop f.offset).take (P.cellsOf f.type)) = xs[i]?)
    (i : Nat) (f : Field) (hi : fs[i]? = some f) {α : Type} {d : Kd α} {good : α → Prop} {o T : Nat} (ho : f.offset = o) (hT : f.type = T) (hc : P.cellsOf T = d.sz) (hr : Rds P d T good) : ∃ x, d.K w x ((cs.drop o).take d.sz) ∧ good x := by
  have h := hf i f hi
  have hlt : i < xs.length := by rw [hx]; exact (Array.getElem?_eq_some_iff.1 hi).1
  rw [List.getElem?_eq_getElem hlt, ho, hT, hc] at h
  exact hr _ _ _ _ _ _ _ _ _ h
end Go.Proofs.Ytjmkpcnekghmhaa.Rd
end
section
namespace Go.Proofs.Ytjmkpcnekghmhaa.snapBack
open Go.ChangeShapes Go.WideShapes Go.ChangeAt Go.RowKit Go.Proofs.YtjmkpcnekghmhaaW.PrintWords Go.Proofs.Ytjmkpcnekghmhaa.PAll
open Go.ChangeMaps (open_string shut_string)
set_option linter.unusedVariables false
theorem own : ownKnob Try.prog.godebug = none := by kernel_rfl
theorem laidOut : laidOutB Try.prog = true := by kernel_rfl
theorem rds93 : Rd.Rds Try.prog k93 93 g93 := by
  intro H enc w base spare held n cs y h
  obtain ⟨xs, m, _, _, hlen, hxl, hf⟩ := DataW.trod_struct Try.underlying93 h
  have hl : cs.length = 3 := hlen.trans (by kernel_rfl)
  obtain ⟨x0, h0, g0_⟩ := Rd.field hxl hf 0 _ rfl (d := Kd.string) (good := (fun x => x.size ≤ maxLen)) (o := 0) (T := 9) rfl rfl (by kernel_rfl) (Rd.rds_string Try.underlying9)
  obtain ⟨x1, h1, g1_⟩ := Rd.field hxl hf 1 _ rfl (d := (Kd.int .i64)) (good := (fun x => (Lit.int .i64 x).wf = true)) (o := 1) (T := 3) rfl rfl (by kernel_rfl) (Rd.rds_int Try.underlying3)
  obtain ⟨x2, h2, g2_⟩ := Rd.field hxl hf 2 _ rfl (d := (Kd.int .i64)) (good := (fun x => (Lit.int .i64 x).wf = true)) (o := 2) (T := 3) rfl rfl (by kernel_rfl) (Rd.rds_int Try.underlying3)
  have hK := (Rd.pair_mk (o := 0) h0 (Rd.pair_mk (o := 1) h1 (Rd.last_mk (a := (Kd.int .i64)) (o := 2) hl h2)))
  exact ⟨⟨x0, x1, x2⟩, (by rw [List.drop_zero] at hK; exact hK), ⟨g0_, g1_, g2_⟩⟩
theorem rds95 : Rd.Rds Try.prog k95 95 g95 := by
  intro H enc w base spare held n cs y h
  obtain ⟨xs, m, _, _, hlen, hxl, hf⟩ := DataW.trod_struct Try.underlying95 h
  have hl : cs.length = 6 := hlen.trans (by kernel_rfl)
  obtain ⟨x0, h0, g0_⟩ := Rd.field hxl hf 0 _ rfl (d := (Kd.int .i64)) (good := (fun x => (Lit.int .i64 x).wf = true)) (o := 0) (T := 3) rfl rfl (by kernel_rfl) (Rd.rds_int Try.underlying3)
  obtain ⟨x1, h1, g1_⟩ := Rd.field hxl hf 1 _ rfl (d := (Kd.int .i64)) (good := (fun x => (Lit.int .i64 x).wf = true)) (o := 1) (T := 3) rfl rfl (by kernel_rfl) (Rd.rds_int Try.underlying3)
  obtain ⟨x2, h2, g2_⟩ := Rd.field hxl hf 2 _ rfl (d := (Kd.int .i64)) (good := (fun x => (Lit.int .i64 x).wf = true)) (o := 2) (T := 3) rfl rfl (by kernel_rfl) (Rd.rds_int Try.underlying3)
  obtain ⟨x3, h3, g3_⟩ := Rd.field hxl hf 3 _ rfl (d := (Kd.int .i64)) (good := (fun x => (Lit.int .i64 x).wf = true)) (o := 3) (T := 3) rfl rfl (by kernel_rfl) (Rd.rds_int Try.underlying3)
  obtain ⟨x4, h4, g4_⟩ := Rd.field hxl hf 4 _ rfl (d := (Kd.int .i64)) (good := (fun x => (Lit.int .i64 x).wf = true)) (o := 4) (T := 3) rfl rfl (by kernel_rfl) (Rd.rds_int Try.underlying3)
  obtain ⟨x5, h5, g5_⟩ := Rd.field hxl hf 5 _ rfl (d := (Kd.int .i64)) (good := (fun x => (Lit.int .i64 x).wf = true)) (o := 5) (T := 3) rfl rfl (by kernel_rfl) (Rd.rds_int Try.underlying3)
  have hK := (Rd.pair_mk (o := 0) h0 (Rd.pair_mk (o := 1) h1 (Rd.pair_mk (o := 2) h2 (Rd.pair_mk (o := 3) h3 (Rd.pair_mk (o := 4) h4 (Rd.last_mk (a := (Kd.int .i64)) (o := 5) hl h5))))))
  exact ⟨⟨x0, x1, x2, x3, x4, x5⟩, (by rw [List.drop_zero] at hK; exact hK), ⟨g0_, g1_, g2_, g3_, g4_, g5_⟩⟩
theorem rds97 : Rd.Rds Try.prog k97 97 g97 := by
  intro H enc w base spare held n cs y h
  obtain ⟨xs, m, _, _, hlen, hxl, hf⟩ := DataW.trod_struct Try.underlying97 h
  have hl : cs.length = 3 := hlen.trans (by kernel_rfl)
  obtain ⟨x0, h0, g0_⟩ := Rd.field hxl hf 0 _ rfl (d := (Kd.int .i64)) (good := (fun x => (Lit.int .i64 x).wf = true)) (o := 0) (T := 3) rfl rfl (by kernel_rfl) (Rd.rds_int Try.underlying3)
  obtain ⟨x1, h1, g1_⟩ := Rd.field hxl hf 1 _ rfl (d := (Kd.int .i64)) (good := (fun x => (Lit.int .i64 x).wf = true)) (o := 1) (T := 3) rfl rfl (by kernel_rfl) (Rd.rds_int Try.underlying3)
  obtain ⟨x2, h2, g2_⟩ := Rd.field hxl hf 2 _ rfl (d := (Kd.int .i64)) (good := (fun x => (Lit.int .i64 x).wf = true)) (o := 2) (T := 3) rfl rfl (by kernel_rfl) (Rd.rds_int Try.underlying3)
  have hK := (Rd.pair_mk (o := 0) h0 (Rd.pair_mk (o := 1) h1 (Rd.last_mk (a := (Kd.int .i64)) (o := 2) hl h2)))
  exact ⟨⟨x0, x1, x2⟩, (by rw [List.drop_zero] at hK; exact hK), ⟨g0_, g1_, g2_⟩⟩
theorem rds102 : Rd.Rds Try.prog k102 102 g102 := by
  intro H enc w base spare held n cs y h
  obtain ⟨xs, m, _, _, hlen, hxl, hf⟩ := DataW.trod_struct Try.underlying102 h
  have hl : cs.length = 2 := hlen.trans (by kernel_rfl)
  obtain ⟨x0, h0, g0_⟩ := Rd.field hxl hf 0 _ rfl (d := (Kd.int .i64)) (good := (fun x => (Lit.int .i64 x).wf = true)) (o := 0) (T := 3) rfl rfl (by kernel_rfl) (Rd.rds_int Try.underlying3)
  obtain ⟨x1, h1, g1_⟩ := Rd.field hxl hf 1 _ rfl (d := (Kd.int .i64)) (good := (fun x => (Lit.int .i64 x).wf = true)) (o := 1) (T := 3) rfl rfl (by kernel_rfl) (Rd.rds_int Try.underlying3)
  have hK := (Rd.pair_mk (o := 0) h0 (Rd.last_mk (a := (Kd.int .i64)) (o := 1) hl h1))
  exact ⟨⟨x0, x1⟩, (by rw [List.drop_zero] at hK; exact hK), ⟨g0_, g1_⟩⟩
theorem rds100 : Rd.Rds Try.prog k100 100 g100 := by
  intro H enc w base spare held n cs y h
  obtain ⟨xs, m, _, _, hlen, hxl, hf⟩ := DataW.trod_struct Try.underlying100 h
  have hl : cs.length = 12 := hlen.trans (by kernel_rfl)
  obtain ⟨x0, h0, g0_⟩ := Rd.field hxl hf 0 _ rfl (d := (Kd.int .i64)) (good := (fun x => (Lit.int .i64 x).wf = true)) (o := 0) (T := 3) rfl rfl (by kernel_rfl) (Rd.rds_int Try.underlying3)
  obtain ⟨x1, h1, g1_⟩ := Rd.field hxl hf 1 _ rfl (d := (Kd.int .i64)) (good := (fun x => (Lit.int .i64 x).wf = true)) (o := 1) (T := 3) rfl rfl (by kernel_rfl) (Rd.rds_int Try.underlying3)
  obtain ⟨x2, h2, g2_⟩ := Rd.field hxl hf 2 _ rfl (d := (Kd.int .i64)) (good := (fun x => (Lit.int .i64 x).wf = true)) (o := 2) (T := 3) rfl rfl (by kernel_rfl) (Rd.rds_int Try.underlying3)
  obtain ⟨x3, h3, g3_⟩ := Rd.field hxl hf 3 _ rfl (d := (Kd.int .i64)) (good := (fun x => (Lit.int .i64 x).wf = true)) (o := 3) (T := 3) rfl rfl (by kernel_rfl) (Rd.rds_int Try.underlying3)
  obtain ⟨x4, h4, g4_⟩ := Rd.field hxl hf 4 _ rfl (d := (Kd.int .i64)) (good := (fun x => (Lit.int .i64 x).wf = true)) (o := 4) (T := 3) rfl rfl (by kernel_rfl) (Rd.rds_int Try.underlying3)
  obtain ⟨x5, h5, g5_⟩ := Rd.field hxl hf 5 _ rfl (d := (Kd.int .i64)) (good := (fun x => (Lit.int .i64 x).wf = true)) (o := 5) (T := 3) rfl rfl (by kernel_rfl) (Rd.rds_int Try.underlying3)
  obtain ⟨x6, h6, g6_⟩ := Rd.field hxl hf 6 _ rfl (d := (Kd.int .i64)) (good := (fun x => (Lit.int .i64 x).wf = true)) (o := 6) (T := 3) rfl rfl (by kernel_rfl) (Rd.rds_int Try.underlying3)
  obtain ⟨x7, h7, g7_⟩ := Rd.field hxl hf 7 _ rfl (d := (Kd.int .i64)) (good := (fun x => (Lit.int .i64 x).wf = true)) (o := 7) (T := 3) rfl rfl (by kernel_rfl) (Rd.rds_int Try.underlying3)
  obtain ⟨x8, h8, g8_⟩ := Rd.field hxl hf 8 _ rfl (d := (Kd.int .i64)) (good := (fun x => (Lit.int .i64 x).wf = true)) (o := 8) (T := 3) rfl rfl (by kernel_rfl) (Rd.rds_int Try.underlying3)
  obtain ⟨x9, h9, g9_⟩ := Rd.field hxl hf 9 _ rfl (d := (Kd.int .i64)) (good := (fun x => (Lit.int .i64 x).wf = true)) (o := 9) (T := 3) rfl rfl (by kernel_rfl) (Rd.rds_int Try.underlying3)
  obtain ⟨x10, h10, g10_⟩ := Rd.field hxl hf 10 _ rfl (d := (Kd.int .i64)) (good := (fun x => (Lit.int .i64 x).wf = true)) (o := 10) (T := 3) rfl rfl (by kernel_rfl) (Rd.rds_int Try.underlying3)
  obtain ⟨x11, h11, g11_⟩ := Rd.field hxl hf 11 _ rfl (d := (Kd.slice 102 k102)) (good := (fun x => (x.length ≤ maxLen ∧ ∀ y ∈ x, g102 y))) (o := 11) (T := 98) rfl rfl (by kernel_rfl) (Rd.rds_slice (P := Try.prog) (T := 98) Try.underlying98 (by kernel_rfl) rds102)
  have hK := (Rd.pair_mk (o := 0) h0 (Rd.pair_mk (o := 1) h1 (Rd.pair_mk (o := 2) h2 (Rd.pair_mk (o := 3) h3 (Rd.pair_mk (o := 4) h4 (Rd.pair_mk (o := 5) h5 (Rd.pair_mk (o := 6) h6 (Rd.pair_mk (o := 7) h7 (Rd.pair_mk (o := 8) h8 (Rd.pair_mk (o := 9) h9 (Rd.pair_mk (o := 10) h10 (Rd.last_mk (a := (Kd.slice 102 k102)) (o := 11) hl h11))))))))))))
  exact ⟨⟨x0, x1, x2, x3, x4, x5, x6, x7, x8, x9, x10, x11⟩, (by rw [List.drop_zero] at hK; exact hK), ⟨g0_, g1_, g2_, g3_, g4_, g5_, g6_, g7_, g8_, g9_, g10_, g11_⟩⟩
theorem rds67 : Rd.Rds Try.prog k67 67 g67 := by
  intro H enc w base spare held n cs y h
  obtain ⟨xs, m, _, _, hlen, hxl, hf⟩ := DataW.trod_struct Try.underlying67 h
  have hl : cs.length = 8 := hlen.trans (by kernel_rfl)
  obtain ⟨x0, h0, g0_⟩ := Rd.field hxl hf 0 _ rfl (d := (Kd.int .i64)) (good := (fun x => (Lit.int .i64 x).wf = true)) (o := 0) (T := 3) rfl rfl (by kernel_rfl) (Rd.rds_int Try.underlying3)
  obtain ⟨x1, h1, g1_⟩ := Rd.field hxl hf 1 _ rfl (d := (Kd.int .i64)) (good := (fun x => (Lit.int .i64 x).wf = true)) (o := 1) (T := 3) rfl rfl (by kernel_rfl) (Rd.rds_int Try.underlying3)
  obtain ⟨x2, h2, g2_⟩ := Rd.field hxl hf 2 _ rfl (d := (Kd.int .i64)) (good := (fun x => (Lit.int .i64 x).wf = true)) (o := 2) (T := 3) rfl rfl (by kernel_rfl) (Rd.rds_int Try.underlying3)
  obtain ⟨x3, h3, g3_⟩ := Rd.field hxl hf 3 _ rfl (d := (Kd.slice 93 k93)) (good := (fun x => (x.length ≤ maxLen ∧ ∀ y ∈ x, g93 y))) (o := 3) (T := 62) rfl rfl (by kernel_rfl) (Rd.rds_slice (P := Try.prog) (T := 62) Try.underlying62 (by kernel_rfl) rds93)
  obtain ⟨x4, h4, g4_⟩ := Rd.field hxl hf 4 _ rfl (d := (Kd.slice 95 k95)) (good := (fun x => (x.length ≤ maxLen ∧ ∀ y ∈ x, g95 y))) (o := 4) (T := 63) rfl rfl (by kernel_rfl) (Rd.rds_slice (P := Try.prog) (T := 63) Try.underlying63 (by kernel_rfl) rds95)
  obtain ⟨x5, h5, g5_⟩ := Rd.field hxl hf 5 _ rfl (d := (Kd.slice 97 k97)) (good := (fun x => (x.length ≤ maxLen ∧ ∀ y ∈ x, g97 y))) (o := 5) (T := 64) rfl rfl (by kernel_rfl) (Rd.rds_slice (P := Try.prog) (T := 64) Try.underlying64 (by kernel_rfl) rds97)
  obtain ⟨x6, h6, g6_⟩ := Rd.field hxl hf 6 _ rfl (d := (Kd.slice 100 k100)) (good := (fun x => (x.length ≤ maxLen ∧ ∀ y ∈ x, g100 y))) (o := 6) (T := 65) rfl rfl (by kernel_rfl) (Rd.rds_slice (P := Try.prog) (T := 65) Try.underlying65 (by kernel_rfl) rds100)
  obtain ⟨x7, h7, g7_⟩ := Rd.field hxl hf 7 _ rfl (d := (Kd.slice 9 Kd.string)) (good := (fun x => (x.length ≤ maxLen ∧ ∀ y ∈ x, y.size ≤ maxLen))) (o := 7) (T := 43) rfl rfl (by kernel_rfl) (Rd.rds_slice (P := Try.prog) (T := 43) Try.underlying43 (by kernel_rfl) (Rd.rds_string Try.underlying9))
  have hK := (Rd.pair_mk (o := 0) h0 (Rd.pair_mk (o := 1) h1 (Rd.pair_mk (o := 2) h2 (Rd.pair_mk (o := 3) h3 (Rd.pair_mk (o := 4) h4 (Rd.pair_mk (o := 5) h5 (Rd.pair_mk (o := 6) h6 (Rd.last_mk (a := (Kd.slice 9 Kd.string)) (o := 7) hl h7))))))))
  exact ⟨⟨x0, x1, x2, x3, x4, x5, x6, x7⟩, (by rw [List.drop_zero] at hK; exact hK), ⟨g0_, g1_, g2_, g3_, g4_, g5_, g6_, g7_⟩⟩
set_option maxRecDepth 100000 in
theorem lifted (os : Os) (started : os.Started) (H : Type) (enc : TypeId × Value → H) :
    ReturnsInHanded {} Try.checked os 14 .any (Rows.snapBackSpec.pre6 enc Try.prog Try.f14 Rows.snapBackRow.domain false) (Rows.snapBackSpec.post enc Try.prog Try.f14 false true false false) := by
  refine returnsInHanded_of_change_sized (C := Try.checked) own started (by kernel_rfl) Try.func14
    (ChangeSpec.witness6 (enc := enc) (C := Try.checked) false ⟨#[], #[.agg #[.int .i64 0, .int .i64 0, .int .i64 0, .slice none 0 0, .slice none 0 0, .slice none 0 0, .slice none 0 0, .slice none 0 0], .slice none 0 0, .int .u8 0, .int .u16 0], []⟩ 8 (by kernel_rfl) (by kernel_rfl) (by kernel_rfl) (by kernel_rfl)) ?_
  intro W base args ds gs before hval0 hW hcnd hsz0 _
  have hval : ∀ (j : Nat) t v, Try.f14.params[j]? = some t → args[j]? = some v → Value.okWide Try.prog W .any base t v := hval0
  have hW' := hW
  obtain ⟨p, q, hA0, hV, rfl, hfz, hnd⟩ := hW
  have hA : DataW.TrodAll enc Try.prog W 0 (fun _ => true) true Try.f14.params.toList args.toList ds p := hA0
  have hsz : (DataW.weightsEach Try.prog (Try.f14.params.toList ++ Rows.snapBackSpec.plain.varTypes Try.prog) (ds ++ gs)).all (· ≤ reachBytes) = true := hsz0
  rw [Try.params14] at hA hval hsz
  obtain ⟨v0, vs0, d0, ds0, p0, q0, hargs, rfl, rfl, h0, r0⟩ := trodAll_cons hA
  obtain ⟨v1, vs1, d1, ds1, p1, q1, rfl, rfl, rfl, h1, r1⟩ := trodAll_cons r0
  obtain ⟨v2, vs2, d2, ds2, p2, q2, rfl, rfl, rfl, h2, r2⟩ := trodAll_cons r1
  obtain ⟨v3, vs3, d3, ds3, p3, q3, rfl, rfl, rfl, h3, r3⟩ := trodAll_cons r2
  obtain ⟨rfl, rfl, rfl⟩ := trodAll_nil r3
  obtain rfl : args = #[v0, v1, v2, v3] := by cases args; simp_all
  obtain ⟨rfl, rfl⟩ := trodVars_none hV
  obtain ⟨⟨cs0⟩, rfl, hz0⟩ := okWide_struct Try.underlying67 (hval 0 67 v0 rfl rfl)
  have k0 := h0
  have lt0 : ∀ x ∈ p0, x.block < W.heap.size := by obtain ⟨m, hm⟩ := k0; exact DataW.trod_lt m _ _ _ hm
  obtain ⟨x0, hK0, g0_⟩ : ∃ x, k67.K W x cs0 ∧ g67 x := by
    obtain ⟨fuel, hf⟩ := h0
    exact rds67 _ _ _ _ _ _ _ _ _ hf
  obtain ⟨A0_3, c0_3, A0_4, c0_4, A0_5, c0_5, A0_6, c0_6, A0_7, c0_7, hcs0, hl0_3, hC0_3, hl0_4, hC0_4, hl0_5, hC0_5, hl0_6, hC0_6, hl0_7, hC0_7⟩ := k67_open hK0
  subst hcs0
  obtain ⟨a1, len1, cap1, rfl⟩ := okWide_slice Try.underlying22 (hval 1 22 v1 rfl rfl)
  have k1 := h1
  have lt1 : ∀ x ∈ p1, x.block < W.heap.size := by obtain ⟨m, hm⟩ := k1; exact DataW.trod_lt m _ _ _ hm
  obtain ⟨l1, ⟨A1, c1, he1, hl1, hC1⟩, g1_⟩ : ∃ xs, ((Kd.slice 5 (Kd.int .u8))).K W xs [.slice a1 len1 cap1] ∧ (fun x => (x.length ≤ maxLen ∧ ∀ y ∈ x, (Lit.int .u8 y).wf = true)) xs := by
    obtain ⟨fuel, hf⟩ := h1
    exact (Rd.rds_slice (P := Try.prog) (T := 22) Try.underlying22 (by kernel_rfl) (Rd.rds_int Try.underlying5)) _ _ _ _ _ _ _ _ _ hf
  obtain ⟨rfl, rfl, rfl⟩ : a1 = A1 ∧ len1 = l1.length ∧ cap1 = c1 := by simpa using he1
  have y1 : l1.length * 1 ≤ 140737488351232 := sized_ints hsz (j := 1) (t := 22) rfl rfl Try.underlying22 Try.underlying5 (by kernel_rfl) (by kernel_rfl) h1
  obtain ⟨a2, rfl, rfl, rfl, w2⟩ := open_int Try.underlying5 (hval 2 5 v2 rfl rfl) h2
  obtain ⟨a3, rfl, rfl, rfl, w3⟩ := open_int Try.underlying44 (hval 3 44 v3 rfl rfl) h3
  clear hA0 hval0 hsz0 hsz
  refine (PAll.prebendlaw13_SnapBack.walk Pure.SnapBack x0.f0 x0.f1 x0.f2 _ _ x0.f3 _ _ x0.f4 _ _ x0.f5 _ _ x0.f6 _ _ x0.f7 _ _ l1 a2 a3 W hC0_3 hl0_3 hC0_4 hl0_4 hC0_5 hl0_5 hC0_6 hl0_6 hC0_7 hl0_7 hC1 hl1 g0_.1 g0_.2.1 g0_.2.2.1 g0_.2.2.2.1 g0_.2.2.2.2.1 g0_.2.2.2.2.2.1 g0_.2.2.2.2.2.2.1 g0_.2.2.2.2.2.2.2 g1_ y1 w2 w3).mono fun e W' ⟨he, bel⟩ => ?_
  subst he
  exact ⟨_, rfl, _, _, _, [], _, [], hW', trodAll_mk1 (shut_bool Try.underlying4 _), (trodAll_cons_mk (Below.trod laidOut (by kernel_rfl) (of_decide_eq_true (by kernel_rfl)) k0 bel lt0) (trodAll_cons_mk (Below.trod laidOut (by kernel_rfl) (of_decide_eq_true (by kernel_rfl)) k1 bel lt1) (trodAll_cons_mk (shut_int Try.underlying5 w2) (trodAll_cons_mk (shut_int Try.underlying44 w3) trodAll_mk0)))), rfl, bel.frame _, fun h => by cases h⟩
theorem over : Rows.snapBackRow.holds Try.pinned (OpenSpec.ofChange Rows.snapBackSpec) :=
  OpenClaim.holds_of_wide 14 Try.f14 rfl rfl rfl rfl rfl rfl rfl ⟨rfl, rfl, rfl, rfl, rfl⟩ rfl rfl rfl rfl rfl (by kernel_rfl) Try.func14 (by kernel_rfl)
    (of_decide_eq_true (by kernel_rfl)) (by unfold Func.isWrapper; first | (rw [if_pos (by decide +kernel)]; kernel_rfl) | (rw [if_neg (by decide +kernel)]; exact ⟨rfl, rfl⟩))
    (fun os started H enc _ => lifted os started H enc)
theorem proved : Rows.SnapBackSaid := over
#print axioms proved
end Go.Proofs.Ytjmkpcnekghmhaa.snapBack
namespace Go.Proofs.Ytjmkpcnekghmhaa
/-- The row, under a short name, for the claim. -/
theorem snapBack_holds : Rows.SnapBackSaid := snapBack.proved
end Go.Proofs.Ytjmkpcnekghmhaa
end
