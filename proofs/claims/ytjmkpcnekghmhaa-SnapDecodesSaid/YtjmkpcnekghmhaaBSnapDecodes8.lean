/- Any bytes are read as the document says: for all that a call may be handed; no conditions. -/
import Derived.Test.YtjmkpcnekghmhaaBSnapDecodes7
import Derived.Test.YtjmkpcnekghmhaaRows
import Derived.ProofKit
import Derived.OpenShut
import Derived.ShutString
import Derived.ChangeOld
section
set_option linter.unusedVariables false
set_option linter.unusedSimpArgs false
namespace Go.Proofs.Ytjmkpcnekghmhaa.Pure
open Go Go.RowKit Go.Proofs.Ytjmkpcnekghmhaa.PAll Go.Proofs.YtjmkpcnekghmhaaW.PrintWords Go.Proofs.YtjmkpcnekghmhaaW.PrintLast

def beN : Nat → Int → List Int
  | 0, _ => []
  | d + 1, v => (v / 2 ^ (8 * d) % 256) :: beN d v
theorem beN_len (v : Int) : ∀ d, (beN d v).length = d
  | 0 => rfl
  | d + 1 => by simp [beN, beN_len v d]
def flat8 (l : List Int) : List Int := (l.map (beN 8)).flatten
theorem flat8_cons (x : Int) (l : List Int) : flat8 (x :: l) = beN 8 x ++ flat8 l := rfl
def wd (s : ByteArray) : List Int := beN 2 (s.size : Int) ++ bytesOf s
theorem horner (v : Int) : ∀ (d : Nat) (a : Int), d ≤ 8 → numS (beN d v) a = wrap64 (a * 2 ^ (8 * d) + v % 2 ^ (8 * d)) ∨ d = 0
  | 0, a, _ => .inr rfl
  | d + 1, a, h => by
    refine .inl ?_
    have hc : 0 ≤ v / 2 ^ (8 * d) % 256 ∧ v / 2 ^ (8 * d) % 256 ≤ 255 := by omega
    simp only [beN, numS]
    rw [or_byte _ _ hc.1 (by omega)]
    rcases horner v d (wrap64 (a * 256 + v / 2 ^ (8 * d) % 256)) (by omega) with e | rfl
    · rw [e]
      have hd : d = 0 ∨ d = 1 ∨ d = 2 ∨ d = 3 ∨ d = 4 ∨ d = 5 ∨ d = 6 ∨ d = 7 := by omega
      rcases hd with rfl | rfl | rfl | rfl | rfl | rfl | rfl | rfl <;> simp only [Nat.reduceMul, Nat.reduceAdd, Int.reducePow] <;> unfold wrap64 <;> omega
    · simp only [beN, numS, Nat.reduceMul, Nat.reduceAdd, Int.reducePow]; unfold wrap64; omega
def W64 (v : Int) : Prop := -9223372036854775808 ≤ v ∧ v ≤ 9223372036854775807
theorem num_be8 (v : Int) (h : W64 v) : numS (beN 8 v) 0 = v := by
  unfold W64 at h
  rcases horner v 8 0 (by omega) with e | e
  · rw [e]; simp only [Nat.reduceMul, Int.reducePow]; unfold wrap64; omega
  · cases e
theorem num_be2 (v : Int) (h : 0 ≤ v ∧ v ≤ 65535) : numS (beN 2 v) 0 = v := by
  rcases horner v 2 0 (by omega) with e | e
  · rw [e]; simp only [Nat.reduceMul, Int.reducePow]; unfold wrap64; omega
  · cases e
theorem rInt_be (v : Int) (r : List Int) (h : W64 v) : rInt (beN 8 v ++ r, false) = (v, (r, false)) := by
  unfold rInt
  rw [if_neg (by simp [beN_len])]
  simp only
  rw [List.take_left' (beN_len _ _), List.drop_left' (beN_len _ _), num_be8 _ h]
theorem rText_wd (s : ByteArray) (r : List Int) (h : s.size ≤ 16) : rText (wd s ++ r, false) 16 = (bytesOf s, (r, false)) := by
  unfold rText wd
  rw [List.append_assoc, if_neg (by simp [beN_len])]
  simp only
  rw [List.take_left' (beN_len _ _), List.drop_left' (beN_len _ _), num_be2 _ (by omega), if_neg (by simp [beN_len, bytesOf_length]; omega)]
  simp only [Int.toNat_natCast]
  rw [List.take_left' (bytesOf_length _), List.drop_left' (bytesOf_length _)]
theorem strOfNums_bytesOf (s : ByteArray) : strOfNums (bytesOf s) = s := by
  unfold strOfNums bytesOf
  rw [List.map_map]
  have : (s.data.toList.map ((fun n : Int => UInt8.ofNat n.toNat) ∘ fun b : UInt8 => (b.toNat : Int))) = s.data.toList := by
    rw [List.map_congr_left (g := id) (fun b _ => by simp [Function.comp])]
    simp
  rw [this]
theorem be_num (bs : List Int) (hb : ∀ x ∈ bs, 0 ≤ x ∧ x ≤ 255) (hl : bs.length = 8) : beN 8 (numS bs 0) = bs := by
  obtain ⟨c0, c1, c2, c3, c4, c5, c6, c7, rfl⟩ : ∃ c0 c1 c2 c3 c4 c5 c6 c7, bs = [c0, c1, c2, c3, c4, c5, c6, c7] := by
    match bs, hl with
    | [c0, c1, c2, c3, c4, c5, c6, c7], _ => exact ⟨_, _, _, _, _, _, _, _, rfl⟩
  simp only [List.mem_cons, List.not_mem_nil, or_false, forall_eq_or_imp, forall_eq] at hb
  obtain ⟨h0, h1, h2, h3, h4, h5, h6, h7⟩ := hb
  simp only [numS]
  rw [or_byte 0 c0 h0.1 (by omega), show wrap64 (0 * 256 + c0) = c0 by unfold wrap64; omega]
  rw [or_byte _ c1 h1.1 (by omega), show wrap64 (c0 * 256 + c1) = c0 * 256 + c1 by unfold wrap64; omega]
  rw [or_byte _ c2 h2.1 (by omega), show wrap64 ((c0 * 256 + c1) * 256 + c2) = c0 * 65536 + c1 * 256 + c2 by unfold wrap64; omega]
  rw [or_byte _ c3 h3.1 (by omega), show wrap64 ((c0 * 65536 + c1 * 256 + c2) * 256 + c3) = c0 * 16777216 + c1 * 65536 + c2 * 256 + c3 by unfold wrap64; omega]
  rw [or_byte _ c4 h4.1 (by omega)]
  generalize hx : c0 * 16777216 + c1 * 65536 + c2 * 256 + c3 = x
  rw [show wrap64 (x * 256 + c4) = x * 256 + c4 by unfold wrap64; omega]
  rw [or_byte _ c5 h5.1 (by omega), show wrap64 ((x * 256 + c4) * 256 + c5) = x * 65536 + c4 * 256 + c5 by unfold wrap64; omega]
  rw [or_byte _ c6 h6.1 (by omega), show wrap64 ((x * 65536 + c4 * 256 + c5) * 256 + c6) = x * 16777216 + c4 * 65536 + c5 * 256 + c6 by unfold wrap64; omega]
  rw [or_byte _ c7 h7.1 (by omega)]
  generalize hy : wrap64 ((x * 16777216 + c4 * 65536 + c5 * 256 + c6) * 256 + c7) = y
  have hy2 : y = x * 4294967296 + c4 * 16777216 + c5 * 65536 + c6 * 256 + c7 ∨ y = x * 4294967296 + c4 * 16777216 + c5 * 65536 + c6 * 256 + c7 - 18446744073709551616 := by rw [← hy]; unfold wrap64; omega
  simp only [beN]
  have q0 : y / 2 ^ (8 * 7) % 256 = c0 := by show y / 72057594037927936 % 256 = c0; omega
  have q1 : y / 2 ^ (8 * 6) % 256 = c1 := by show y / 281474976710656 % 256 = c1; omega
  have q2 : y / 2 ^ (8 * 5) % 256 = c2 := by show y / 1099511627776 % 256 = c2; omega
  have q3 : y / 2 ^ (8 * 4) % 256 = c3 := by show y / 4294967296 % 256 = c3; omega
  have q4 : y / 2 ^ (8 * 3) % 256 = c4 := by show y / 16777216 % 256 = c4; omega
  have q5 : y / 2 ^ (8 * 2) % 256 = c5 := by show y / 65536 % 256 = c5; omega
  have q6 : y / 2 ^ (8 * 1) % 256 = c6 := by show y / 256 % 256 = c6; omega
  have q7 : y / 2 ^ (8 * 0) % 256 = c7 := by show y / 1 % 256 = c7; omega
  rw [q0, q1, q2, q3, q4, q5, q6, q7]
def Byt (l : List Int) : Prop := ∀ x ∈ l, 0 ≤ x ∧ x ≤ 255
theorem Byt.drop {l : List Int} (h : Byt l) (n : Nat) : Byt (l.drop n) := fun x hx => h x (List.mem_of_mem_drop hx)
theorem Byt.take {l : List Int} (h : Byt l) (n : Nat) : Byt (l.take n) := fun x hx => h x (List.mem_of_mem_take hx)
theorem numS_w : ∀ (bs : List Int) (n : Int), Byt bs → W64 n → W64 (numS bs n)
  | [], n, _, h => h
  | c :: r, n, hb, h => by
    have hc := hb c (List.mem_cons_self ..)
    rw [numS, or_byte _ _ hc.1 (by omega)]
    refine numS_w r _ (fun x hx => hb x (List.mem_cons_of_mem _ hx)) ?_
    unfold W64 wrap64; omega
theorem bytesOf_str (xs : List Int) (hb : Byt xs) : bytesOf (strOfNums xs) = xs := by
  unfold bytesOf strOfNums
  simp only [List.map_map]
  rw [List.map_congr_left (g := id) (fun x hx => ?_)]
  · simp
  · have := hb x hx
    simp only [Function.comp, UInt8.toNat_ofNat', id]
    omega
theorem str_size (xs : List Int) : (strOfNums xs).size = xs.length := by
  show (strOfNums xs).data.size = _
  simp [strOfNums]
theorem int_ok {s : List Int × Bool} (h : (rInt s).2.2 = false) : s.2 = false ∧ 8 ≤ s.1.length ∧ rInt s = (numS (s.1.take 8) 0, (s.1.drop 8, false)) := by
  unfold rInt at h ⊢
  by_cases c : s.2 = true ∨ s.1.length < 8
  · rw [if_pos c] at h; simp at h
  · rw [if_neg c]
    exact ⟨by cases hs : s.2 <;> simp_all, by omega, rfl⟩
theorem text_ok {s : List Int × Bool} (h : (rText s 16).2.2 = false) : s.2 = false ∧ 2 ≤ s.1.length ∧ numS (s.1.take 2) 0 ≤ 16 ∧ numS (s.1.take 2) 0 ≤ ((s.1.length - 2 : Nat) : Int) ∧ rText s 16 = ((s.1.drop 2).take (numS (s.1.take 2) 0).toNat, ((s.1.drop 2).drop (numS (s.1.take 2) 0).toNat, false)) := by
  unfold rText at h ⊢
  by_cases c : s.2 = true ∨ s.1.length < 2
  · rw [if_pos c] at h; simp at h
  · rw [if_neg c] at h ⊢
    by_cases d : numS (s.1.take 2) 0 > 16 ∨ ((s.1.length - 2 : Nat) : Int) < numS (s.1.take 2) 0
    · rw [if_pos d] at h; simp at h
    · rw [if_neg d]
      exact ⟨by cases hs : s.2 <;> simp_all, by omega, by omega, by omega, rfl⟩
theorem inv_int {s : List Int × Bool} (hb : Byt s.1) (h : (rInt s).2.2 = false) : s.1 = beN 8 (rInt s).1 ++ (rInt s).2.1 ∧ W64 (rInt s).1 ∧ Byt (rInt s).2.1 := by
  obtain ⟨h1, h2, h3⟩ := int_ok h
  rw [h3]
  refine ⟨?_, numS_w _ _ (hb.take 8) (by unfold W64; omega), hb.drop 8⟩
  show s.1 = beN 8 (numS (s.1.take 8) 0) ++ s.1.drop 8
  rw [be_num _ (hb.take 8) (by rw [List.length_take]; omega), List.take_append_drop]
theorem inv_text {s : List Int × Bool} (hb : Byt s.1) (h : (rText s 16).2.2 = false) : s.1 = wd (strOfNums (rText s 16).1) ++ (rText s 16).2.1 ∧ (strOfNums (rText s 16).1).size ≤ 16 ∧ Byt (rText s 16).2.1 := by
  obtain ⟨h1, h2, h3, h4, h5⟩ := text_ok h
  rw [h5]
  obtain ⟨x, y, r, hs⟩ : ∃ x y r, s.1 = x :: y :: r := by
    match hs : s.1, h2 with
    | x :: y :: r, _ => exact ⟨x, y, r, rfl⟩
  have hx : 0 ≤ x ∧ x ≤ 255 := hb x (by rw [hs]; simp)
  have hy : 0 ≤ y ∧ y ≤ 255 := hb y (by rw [hs]; simp)
  have hn : numS (s.1.take 2) 0 = x * 256 + y := by rw [hs]; exact numS_two x y hx hy
  rw [hn] at h3 h4 ⊢
  have hx0 : x = 0 := by omega
  subst hx0
  have hlen : ((s.1.drop 2).take ((0 : Int) * 256 + y).toNat).length = y.toNat := by rw [List.length_take, List.length_drop]; omega
  refine ⟨?_, by rw [str_size, hlen]; omega, (hb.drop 2).drop _⟩
  show s.1 = (beN 2 ((strOfNums ((s.1.drop 2).take ((0 : Int) * 256 + y).toNat)).size : Int) ++ bytesOf (strOfNums ((s.1.drop 2).take ((0 : Int) * 256 + y).toNat))) ++ (s.1.drop 2).drop ((0 : Int) * 256 + y).toNat
  rw [str_size, hlen, bytesOf_str _ ((hb.drop 2).take _), List.append_assoc, List.take_append_drop, Int.toNat_of_nonneg hy.1, hs]
  show 0 :: y :: r = [y / 2 ^ (8 * 1) % 256, y / 2 ^ (8 * 0) % 256] ++ r
  rw [show y / 2 ^ (8 * 1) % 256 = 0 by show y / 256 % 256 = 0; omega, show y / 2 ^ (8 * 0) % 256 = y by show y / 1 % 256 = y; omega]
  rfl
theorem tl_iff (a b : ByteArray) : a.toList = b.toList ↔ a = b := by
  constructor
  · intro h
    rw [Go.ByteArray.toList_eq, Go.ByteArray.toList_eq] at h
    exact ByteArray.ext (Array.toList_inj.mp h)
  · rintro rfl; rfl
theorem drop_iff {α : Type} {l m : List α} {j : Nat} (h1 : j < l.length) (h2 : j < m.length) : l.drop j = m.drop j ↔ l[j] = m[j] ∧ l.drop (j + 1) = m.drop (j + 1) := by
  rw [List.drop_eq_getElem_cons h1, List.drop_eq_getElem_cons h2, List.cons.injEq]
structure Codec {α : Type} (one : RS → α × RS) (enc : α → List Int) (ok : α → Prop) : Prop where
  fwd : ∀ x r b, ok x → one ((enc x ++ r, false), b) = (x, ((r, false), b))
  good : ∀ s, (one s).2.1.2 = false → (one s).2.2 = false → s.1.2 = false ∧ s.2 = false
  inv : ∀ s, Byt s.1.1 → (one s).2.1.2 = false → (one s).2.2 = false → s.1.1 = enc (one s).1 ++ (one s).2.1.1 ∧ ok (one s).1 ∧ Byt (one s).2.1.1
def encs {α : Type} (enc : α → List Int) (L : List α) : List Int := (L.map enc).flatten
theorem encs_cons {α : Type} (enc : α → List Int) (x : α) (L : List α) : encs enc (x :: L) = enc x ++ encs enc L := rfl
section
variable {α : Type} {one : RS → α × RS} {enc : α → List Int} {ok : α → Prop}
theorem loop_fwd (hc : Codec one enc ok) : ∀ (L : List α) (r : List Int) (b : Bool) (out : List α), (∀ x ∈ L, ok x) → rLoop one L.length ((encs enc L ++ r, false), b) out = (out ++ L, ((r, false), b))
  | [], r, b, out, _ => by simp [rLoop, encs]
  | x :: L, r, b, out, h => by
    rw [encs_cons, List.append_assoc, List.length_cons, rLoop, hc.fwd x _ b (h x (List.mem_cons_self ..)), loop_fwd hc L r b _ (fun y hy => h y (List.mem_cons_of_mem _ hy))]
    simp
theorem loop_good (hc : Codec one enc ok) : ∀ (n : Nat) (s : RS) (out : List α), (rLoop one n s out).2.1.2 = false → (rLoop one n s out).2.2 = false → s.1.2 = false ∧ s.2 = false
  | 0, s, out, h, h2 => ⟨h, h2⟩
  | n + 1, s, out, h, h2 => by
    rw [rLoop] at h h2
    obtain ⟨g1, g2⟩ := loop_good hc n _ _ h h2
    exact hc.good s g1 g2
theorem loop_inv (hc : Codec one enc ok) : ∀ (n : Nat) (s : RS) (out : List α), Byt s.1.1 → (rLoop one n s out).2.1.2 = false → (rLoop one n s out).2.2 = false → ∃ L, (rLoop one n s out).1 = out ++ L ∧ L.length = n ∧ s.1.1 = encs enc L ++ (rLoop one n s out).2.1.1 ∧ (∀ x ∈ L, ok x) ∧ Byt (rLoop one n s out).2.1.1
  | 0, s, out, hb, _, _ => ⟨[], by simp [rLoop], rfl, by simp [encs, rLoop], by simp, hb⟩
  | n + 1, s, out, hb, h, h2 => by
    rw [rLoop] at h h2 ⊢
    obtain ⟨g1, g2⟩ := loop_good hc n _ _ h h2
    obtain ⟨e, ho, hb2⟩ := hc.inv s hb g1 g2
    obtain ⟨L, q1, q2, q3, q4, q5⟩ := loop_inv hc n _ _ hb2 h h2
    refine ⟨(one s).1 :: L, by rw [q1]; simp, by simp [q2], ?_, ?_, q5⟩
    · rw [e, q3, encs_cons, List.append_assoc, ← q3]
    · intro x hx
      rcases List.mem_cons.1 hx with rfl | hx
      · exact ho
      · exact q4 x hx
theorem list_codec (hc : Codec one enc ok) (m : Int) (hm : 0 ≤ m ∧ m ≤ 100) : Codec (rList one m) (fun L => beN 8 (L.length : Int) ++ encs enc L) (fun L => (L.length : Int) ≤ m ∧ ∀ x ∈ L, ok x) := by
  refine ⟨fun L r b h => ?_, fun s h h2 => ?_, fun s hb h h2 => ?_⟩
  · unfold rList
    have hw : W64 (L.length : Int) := by have := h.1; unfold W64; omega
    simp only [List.append_assoc]
    rw [rInt_be _ _ hw]
    simp only
    rw [if_pos ⟨by omega, h.1⟩, Int.toNat_natCast, loop_fwd hc L r b [] h.2]
    simp
  · unfold rList at h h2
    split at h
    · rename_i c
      rw [if_pos c] at h2
      obtain ⟨g1, g2⟩ := loop_good hc _ _ _ h h2
      exact ⟨(int_ok g1).1, g2⟩
    · rename_i c
      rw [if_neg c] at h2
      simp at h2
  · unfold rList at h h2 ⊢
    split at h
    · rename_i c
      rw [if_pos c] at h2 ⊢
      obtain ⟨g1, g2⟩ := loop_good hc _ _ _ h h2
      obtain ⟨e, hw, hb2⟩ := inv_int hb g1
      obtain ⟨L, q1, q2, q3, q4, q5⟩ := loop_inv hc _ _ _ hb2 h h2
      have hL : (rLoop one (rInt s.1).1.toNat ((rInt s.1).2, s.2) []).1 = L := by simpa using q1
      have hn : (L.length : Int) = (rInt s.1).1 := by omega
      simp only [hL]
      refine ⟨?_, ⟨by omega, q4⟩, q5⟩
      rw [e, hn, List.append_assoc]
      congr 1
    · rename_i c
      rw [if_neg c] at h2
      simp at h2
end
theorem ints_fwd : ∀ (L : List Int) (r : List Int), (∀ x ∈ L, W64 x) → rInts L.length (flat8 L ++ r, false) = (L, (r, false))
  | [], r, _ => by simp [rInts, flat8]
  | x :: L, r, h => by
    rw [flat8_cons, List.append_assoc, List.length_cons, rInts, rInt_be x _ (h x (List.mem_cons_self ..)), ints_fwd L r (fun y hy => h y (List.mem_cons_of_mem _ hy))]
theorem ints_good : ∀ (n : Nat) (s : List Int × Bool), (rInts n s).2.2 = false → s.2 = false
  | 0, s, h => h
  | n + 1, s, h => by
    rw [rInts] at h
    exact (int_ok (ints_good n _ h)).1
theorem ints_inv : ∀ (n : Nat) (s : List Int × Bool), Byt s.1 → (rInts n s).2.2 = false → s.1 = flat8 (rInts n s).1 ++ (rInts n s).2.1 ∧ (∀ x ∈ (rInts n s).1, W64 x) ∧ Byt (rInts n s).2.1
  | 0, s, hb, _ => ⟨by simp [rInts, flat8], by simp [rInts], hb⟩
  | n + 1, s, hb, h => by
    rw [rInts] at h ⊢
    obtain ⟨e, hw, hb2⟩ := inv_int hb (ints_good n _ h)
    obtain ⟨q1, q2, q3⟩ := ints_inv n _ hb2 h
    refine ⟨?_, ?_, q3⟩
    · show s.1 = flat8 ((rInt s).1 :: (rInts n (rInt s).2).1) ++ (rInts n (rInt s).2).2.1
      rw [flat8_cons, List.append_assoc, ← q1]; exact e
    · intro x hx
      rcases List.mem_cons.1 hx with rfl | hx
      · exact hw
      · exact q2 x hx
def eFund (x : S93) : List Int := wd x.f0 ++ flat8 [x.f1, x.f2]
def eAlloc (x : S95) : List Int := flat8 [x.f0, x.f1, x.f2, x.f3, x.f4, x.f5]
def eRate (x : S97) : List Int := flat8 [x.f0, x.f1, x.f2]
def eDraw (x : S102) : List Int := flat8 [x.f0, x.f1]
def eJob (x : S100) : List Int := flat8 [x.f0, x.f1, x.f2, x.f3, x.f4, x.f5, x.f6, x.f7, x.f8, x.f9, x.f10] ++ (beN 8 (x.f11.length : Int) ++ encs eDraw x.f11)
def oFund (x : S93) : Prop := x.f0.size ≤ 16 ∧ W64 x.f1 ∧ W64 x.f2
def oAlloc (x : S95) : Prop := W64 x.f0 ∧ W64 x.f1 ∧ W64 x.f2 ∧ W64 x.f3 ∧ W64 x.f4 ∧ W64 x.f5
def oRate (x : S97) : Prop := W64 x.f0 ∧ W64 x.f1 ∧ W64 x.f2
def oDraw (x : S102) : Prop := W64 x.f0 ∧ W64 x.f1
def oJob (x : S100) : Prop := (W64 x.f0 ∧ W64 x.f1 ∧ W64 x.f2 ∧ W64 x.f3 ∧ W64 x.f4 ∧ W64 x.f5 ∧ W64 x.f6 ∧ W64 x.f7 ∧ W64 x.f8 ∧ W64 x.f9 ∧ W64 x.f10) ∧ ((x.f11.length : Int) ≤ 16 ∧ ∀ d ∈ x.f11, oDraw d)
def oKey (x : ByteArray) : Prop := x.size ≤ 16
theorem key_codec : Codec dKey wd oKey := by
  refine ⟨fun x r b h => ?_, fun s h h2 => ?_, fun s hb h h2 => ?_⟩
  · unfold dKey; simp only; rw [rText_wd _ _ h]; simp only [strOfNums_bytesOf]
  · exact ⟨(text_ok h).1, h2⟩
  · exact inv_text hb h
theorem draw_codec : Codec dDraw eDraw oDraw := by
  refine ⟨fun x r b h => ?_, fun s h h2 => ?_, fun s hb h h2 => ?_⟩
  · have e := ints_fwd [x.f0, x.f1] r (by simp only [List.mem_cons, List.not_mem_nil, or_false, forall_eq_or_imp, forall_eq]; exact h)
    unfold dDraw eDraw; simp only
    rw [show (2 : Nat) = [x.f0, x.f1].length from rfl, e]
    rfl
  · exact ⟨ints_good _ _ h, h2⟩
  · obtain ⟨e, hw, hb2⟩ := ints_inv 2 s.1 hb h
    obtain ⟨y0, y1, hy⟩ : ∃ y0 y1, (rInts 2 s.1).1 = [y0, y1] := ⟨_, _, rfl⟩
    unfold dDraw eDraw oDraw; simp only
    rw [hy] at e hw ⊢
    simp only [List.mem_cons, List.not_mem_nil, or_false, forall_eq_or_imp, forall_eq] at hw
    exact ⟨e, hw, hb2⟩
theorem rate_codec : Codec dRate eRate oRate := by
  refine ⟨fun x r b h => ?_, fun s h h2 => ?_, fun s hb h h2 => ?_⟩
  · have e := ints_fwd [x.f0, x.f1, x.f2] r (by simp only [List.mem_cons, List.not_mem_nil, or_false, forall_eq_or_imp, forall_eq]; exact h)
    unfold dRate eRate; simp only
    rw [show (3 : Nat) = [x.f0, x.f1, x.f2].length from rfl, e]
    rfl
  · exact ⟨ints_good _ _ h, h2⟩
  · obtain ⟨e, hw, hb2⟩ := ints_inv 3 s.1 hb h
    obtain ⟨y0, y1, y2, hy⟩ : ∃ y0 y1 y2, (rInts 3 s.1).1 = [y0, y1, y2] := ⟨_, _, _, rfl⟩
    unfold dRate eRate oRate; simp only
    rw [hy] at e hw ⊢
    simp only [List.mem_cons, List.not_mem_nil, or_false, forall_eq_or_imp, forall_eq] at hw
    exact ⟨e, hw, hb2⟩
theorem alloc_codec : Codec dAlloc eAlloc oAlloc := by
  refine ⟨fun x r b h => ?_, fun s h h2 => ?_, fun s hb h h2 => ?_⟩
  · have e := ints_fwd [x.f0, x.f1, x.f2, x.f3, x.f4, x.f5] r (by simp only [List.mem_cons, List.not_mem_nil, or_false, forall_eq_or_imp, forall_eq]; exact h)
    unfold dAlloc eAlloc; simp only
    rw [show (6 : Nat) = [x.f0, x.f1, x.f2, x.f3, x.f4, x.f5].length from rfl, e]
    rfl
  · exact ⟨ints_good _ _ h, h2⟩
  · obtain ⟨e, hw, hb2⟩ := ints_inv 6 s.1 hb h
    obtain ⟨y0, y1, y2, y3, y4, y5, hy⟩ : ∃ y0 y1 y2 y3 y4 y5, (rInts 6 s.1).1 = [y0, y1, y2, y3, y4, y5] := ⟨_, _, _, _, _, _, rfl⟩
    unfold dAlloc eAlloc oAlloc; simp only
    rw [hy] at e hw ⊢
    simp only [List.mem_cons, List.not_mem_nil, or_false, forall_eq_or_imp, forall_eq] at hw
    exact ⟨e, hw, hb2⟩
theorem fund_codec : Codec dFund eFund oFund := by
  refine ⟨fun x r b h => ?_, fun s h h2 => ?_, fun s hb h h2 => ?_⟩
  · have e := ints_fwd [x.f1, x.f2] r (by simp only [List.mem_cons, List.not_mem_nil, or_false, forall_eq_or_imp, forall_eq]; exact h.2)
    unfold dFund eFund; simp only [List.append_assoc]
    rw [rText_wd _ _ h.1]; simp only
    rw [show (2 : Nat) = [x.f1, x.f2].length from rfl, e]
    simp only [strOfNums_bytesOf]
    rfl
  · exact ⟨(text_ok (ints_good _ _ h)).1, h2⟩
  · have ht := ints_good _ _ h
    obtain ⟨e1, hs, hb1⟩ := inv_text hb ht
    obtain ⟨e, hw, hb2⟩ := ints_inv 2 _ hb1 h
    unfold dFund eFund oFund; simp only
    generalize rText s.1 16 = t at *
    obtain ⟨y0, y1, hy⟩ : ∃ y0 y1, (rInts 2 t.2).1 = [y0, y1] := ⟨_, _, rfl⟩
    rw [hy] at e hw ⊢
    simp only [List.mem_cons, List.not_mem_nil, or_false, forall_eq_or_imp, forall_eq] at hw
    refine ⟨?_, ⟨hs, hw⟩, hb2⟩
    rw [e1, e, List.append_assoc]
    rfl
theorem job_codec : Codec dJob eJob oJob := by
  have hl := list_codec draw_codec 16 (by omega)
  refine ⟨fun x r b h => ?_, fun s h h2 => ?_, fun s hb h h2 => ?_⟩
  · have e := ints_fwd [x.f0, x.f1, x.f2, x.f3, x.f4, x.f5, x.f6, x.f7, x.f8, x.f9, x.f10] ((beN 8 (x.f11.length : Int) ++ encs eDraw x.f11) ++ r) (by simp only [List.mem_cons, List.not_mem_nil, or_false, forall_eq_or_imp, forall_eq]; exact h.1)
    have e2 := hl.fwd x.f11 r b h.2
    unfold dJob eJob; simp only [List.append_assoc] at e e2 ⊢
    rw [show (11 : Nat) = [x.f0, x.f1, x.f2, x.f3, x.f4, x.f5, x.f6, x.f7, x.f8, x.f9, x.f10].length from rfl, e]
    simp only
    rw [e2]
    rfl
  · obtain ⟨g1, g2⟩ := hl.good _ h h2
    exact ⟨ints_good _ _ g1, g2⟩
  · obtain ⟨g1, g2⟩ := hl.good _ h h2
    obtain ⟨e, hw, hb2⟩ := ints_inv 11 s.1 hb g1
    obtain ⟨e2, ho, hb3⟩ := hl.inv _ hb2 h h2
    obtain ⟨y0, y1, y2, y3, y4, y5, y6, y7, y8, y9, y10, hy⟩ := eleven _ (rInts_len 11 s.1)
    unfold dJob eJob oJob
    generalize rList dDraw 16 ((rInts 11 s.1).2, s.2) = D at *
    rw [hy] at e hw ⊢
    simp only [List.mem_cons, List.not_mem_nil, or_false, forall_eq_or_imp, forall_eq] at hw
    refine ⟨?_, ⟨hw, ho⟩, hb3⟩
    rw [e, e2, List.append_assoc]
    rfl

def Lim (F : List S93) (A : List S95) (R : List S97) (J : List S100) (Ks : List ByteArray) : Prop := (F.length ≤ 8 ∧ A.length ≤ 16 ∧ R.length ≤ 16 ∧ J.length ≤ 16 ∧ Ks.length ≤ 8) ∧ (∀ x ∈ F, x.f0.size ≤ 16) ∧ (∀ x ∈ J, x.f11.length ≤ 16) ∧ ∀ x ∈ Ks, x.size ≤ 16
def tK (Ks : List ByteArray) : List Int := beN 8 (Ks.length : Int) ++ encs wd Ks
def tJ (J : List S100) (Ks : List ByteArray) : List Int := beN 8 (J.length : Int) ++ (encs eJob J ++ tK Ks)
def tR (R : List S97) (J : List S100) (Ks : List ByteArray) : List Int := beN 8 (R.length : Int) ++ (encs eRate R ++ tJ J Ks)
def tA (A : List S95) (R : List S97) (J : List S100) (Ks : List ByteArray) : List Int := beN 8 (A.length : Int) ++ (encs eAlloc A ++ tR R J Ks)
def encT (a0 a1 a2 : Int) (F : List S93) (A : List S95) (R : List S97) (J : List S100) (Ks : List ByteArray) : List Int := flat8 [a0, a1, a2] ++ (beN 8 (F.length : Int) ++ (encs eFund F ++ tA A R J Ks))
theorem up1 (j : Nat) (h : j < 1000000) : wrap64 ((j : Int) + 1) = ((j + 1 : Nat) : Int) := by unfold wrap64; omega
theorem rd_at {α : Type} (z : α) (L : List α) (j : Nat) (h : j < L.length) : L.getD ((j : Nat) : Int).toNat z = L[j] := by
  rw [Int.toNat_natCast]; simp [List.getD_eq_getElem?_getD, h]
section
variable (a0 a1 a2 : Int) (F : List S93) (A : List S95) (R : List S97) (J : List S100) (Ks : List ByteArray)
end
theorem eq93 (x y : S93) : ((!((x.f0.toList) == (y.f0.toList))) || ((!((x.f1) == (y.f1))) || (!((x.f2) == (y.f2))))) = false ↔ x = y := by
  cases x; cases y; simp [tl_iff]
theorem ne93 (x y : S93) (h : x ≠ y) : ((!((x.f0.toList) == (y.f0.toList))) || ((!((x.f1) == (y.f1))) || (!((x.f2) == (y.f2))))) = true := by
  cases hq : ((!((x.f0.toList) == (y.f0.toList))) || ((!((x.f1) == (y.f1))) || (!((x.f2) == (y.f2))))) with
  | true => rfl
  | false => exact absurd ((eq93 x y).1 hq) h
theorem eq95 (x y : S95) : ((!((x.f0) == (y.f0))) || ((!((x.f1) == (y.f1))) || ((!((x.f2) == (y.f2))) || ((!((x.f3) == (y.f3))) || ((!((x.f4) == (y.f4))) || (!((x.f5) == (y.f5)))))))) = false ↔ x = y := by
  cases x; cases y; simp [tl_iff]
theorem ne95 (x y : S95) (h : x ≠ y) : ((!((x.f0) == (y.f0))) || ((!((x.f1) == (y.f1))) || ((!((x.f2) == (y.f2))) || ((!((x.f3) == (y.f3))) || ((!((x.f4) == (y.f4))) || (!((x.f5) == (y.f5)))))))) = true := by
  cases hq : ((!((x.f0) == (y.f0))) || ((!((x.f1) == (y.f1))) || ((!((x.f2) == (y.f2))) || ((!((x.f3) == (y.f3))) || ((!((x.f4) == (y.f4))) || (!((x.f5) == (y.f5)))))))) with
  | true => rfl
  | false => exact absurd ((eq95 x y).1 hq) h
theorem eq97 (x y : S97) : ((!((x.f0) == (y.f0))) || ((!((x.f1) == (y.f1))) || (!((x.f2) == (y.f2))))) = false ↔ x = y := by
  cases x; cases y; simp [tl_iff]
theorem ne97 (x y : S97) (h : x ≠ y) : ((!((x.f0) == (y.f0))) || ((!((x.f1) == (y.f1))) || (!((x.f2) == (y.f2))))) = true := by
  cases hq : ((!((x.f0) == (y.f0))) || ((!((x.f1) == (y.f1))) || (!((x.f2) == (y.f2))))) with
  | true => rfl
  | false => exact absurd ((eq97 x y).1 hq) h
theorem eq102 (x y : S102) : ((!((x.f0) == (y.f0))) || (!((x.f1) == (y.f1)))) = false ↔ x = y := by
  cases x; cases y; simp [tl_iff]
theorem ne102 (x y : S102) (h : x ≠ y) : ((!((x.f0) == (y.f0))) || (!((x.f1) == (y.f1)))) = true := by
  cases hq : ((!((x.f0) == (y.f0))) || (!((x.f1) == (y.f1)))) with
  | true => rfl
  | false => exact absurd ((eq102 x y).1 hq) h
theorem sj_l0 (x0 x1 x2 x3 x4 x5 x6 x7 x8 x9 x10 : Int) (D : List S102) (y0 y1 y2 y3 y4 y5 y6 y7 y8 y9 y10 : Int) (E : List S102) (he : D.length = E.length) (hL : D.length < 100000) : ∀ (n j K : Nat), j + n = D.length → n + 1 ≤ K → ∃ b, prebendref13_SameJob.l0 K (j : Int) x0 x1 x2 x3 x4 x5 x6 x7 x8 x9 x10 D y0 y1 y2 y3 y4 y5 y6 y7 y8 y9 y10 E = some b ∧ (b = true ↔ D.drop j = E.drop j)
  | 0, j, K, h, hK => by
    obtain ⟨k, rfl⟩ : ∃ k, K = k + 1 := ⟨K - 1, by omega⟩
    refine ⟨true, by rw [prebendref13_SameJob.l0.eq_2, if_neg (by omega)], ?_⟩
    rw [List.drop_eq_nil_of_le (by omega), List.drop_eq_nil_of_le (by omega)]; simp
  | n + 1, j, K, h, hK => by
    obtain ⟨k, rfl⟩ : ∃ k, K = k + 1 := ⟨K - 1, by omega⟩
    have h1 : j < D.length := by omega
    have h2 : j < E.length := by omega
    have r1 : rd_T102 D (j : Int) = D[j] := rd_at _ D j h1
    have r2 : rd_T102 E (j : Int) = E[j] := rd_at _ E j h2
    rw [prebendref13_SameJob.l0.eq_2, if_pos (by omega), if_pos (by omega), if_pos (by omega), r1, r2, up1 j (by omega)]
    by_cases hc : D[j] = E[j]
    · obtain ⟨b, hb, hi⟩ := sj_l0 x0 x1 x2 x3 x4 x5 x6 x7 x8 x9 x10 D y0 y1 y2 y3 y4 y5 y6 y7 y8 y9 y10 E he hL n (j + 1) k (by omega) (by omega)
      refine ⟨b, by rw [if_neg (by rw [(eq102 _ _).2 hc]; simp)]; exact hb, ?_⟩
      rw [hi, drop_iff h1 h2]
      exact ⟨fun h => ⟨hc, h⟩, fun h => h.2⟩
    · refine ⟨false, by rw [if_pos (ne102 _ _ hc)], ?_⟩
      rw [drop_iff h1 h2]
      exact ⟨fun h => by simp at h, fun h => (hc h.1).elim⟩
theorem sj_f (x y : S100) (K : Nat) (hD : x.f11.length ≤ 100) (hK : 150 ≤ K) : ∃ b, prebendref13_SameJob.f K x.f0 x.f1 x.f2 x.f3 x.f4 x.f5 x.f6 x.f7 x.f8 x.f9 x.f10 x.f11 y.f0 y.f1 y.f2 y.f3 y.f4 y.f5 y.f6 y.f7 y.f8 y.f9 y.f10 y.f11 = some b ∧ (b = true ↔ x = y) := by
  obtain ⟨k, rfl⟩ : ∃ k, K = k + 1 := ⟨K - 1, by omega⟩
  obtain ⟨x0, x1, x2, x3, x4, x5, x6, x7, x8, x9, x10, D⟩ := x
  obtain ⟨y0, y1, y2, y3, y4, y5, y6, y7, y8, y9, y10, E⟩ := y
  simp only at hD ⊢
  have hT : ∀ c, c = true → prebendref13_SameJob.j0 (k + 1) c x0 x1 x2 x3 x4 x5 x6 x7 x8 x9 x10 D y0 y1 y2 y3 y4 y5 y6 y7 y8 y9 y10 E = some false := fun c hc => by rw [prebendref13_SameJob.j0.eq_2, if_pos hc]
  unfold prebendref13_SameJob.f
  simp only [S100.mk.injEq]
  by_cases c0 : x0 = y0
  case neg => exact ⟨false, by rw [if_neg c0]; exact hT _ rfl, ⟨fun h => by simp at h, fun h => (c0 h.1).elim⟩⟩
  rw [if_pos c0]
  by_cases c1 : x1 = y1
  case neg => exact ⟨false, by rw [if_neg c1]; exact hT _ rfl, ⟨fun h => by simp at h, fun h => (c1 h.2.1).elim⟩⟩
  rw [if_pos c1]
  by_cases c2 : x2 = y2
  case neg => exact ⟨false, by rw [if_neg c2]; exact hT _ rfl, ⟨fun h => by simp at h, fun h => (c2 h.2.2.1).elim⟩⟩
  rw [if_pos c2]
  by_cases c3 : x3 = y3
  case neg => exact ⟨false, by rw [if_neg c3]; exact hT _ rfl, ⟨fun h => by simp at h, fun h => (c3 h.2.2.2.1).elim⟩⟩
  rw [if_pos c3]
  by_cases c4 : x4 = y4
  case neg => exact ⟨false, by rw [if_neg c4]; exact hT _ rfl, ⟨fun h => by simp at h, fun h => (c4 h.2.2.2.2.1).elim⟩⟩
  rw [if_pos c4]
  by_cases c5 : x5 = y5
  case neg => exact ⟨false, by rw [if_neg c5]; exact hT _ rfl, ⟨fun h => by simp at h, fun h => (c5 h.2.2.2.2.2.1).elim⟩⟩
  rw [if_pos c5]
  by_cases c6 : x6 = y6
  case neg => exact ⟨false, by rw [if_neg c6]; exact hT _ rfl, ⟨fun h => by simp at h, fun h => (c6 h.2.2.2.2.2.2.1).elim⟩⟩
  rw [if_pos c6]
  by_cases c7 : x7 = y7
  case neg => exact ⟨false, by rw [if_neg c7]; exact hT _ rfl, ⟨fun h => by simp at h, fun h => (c7 h.2.2.2.2.2.2.2.1).elim⟩⟩
  rw [if_pos c7]
  by_cases c8 : x8 = y8
  case neg => exact ⟨false, by rw [if_neg c8]; exact hT _ rfl, ⟨fun h => by simp at h, fun h => (c8 h.2.2.2.2.2.2.2.2.1).elim⟩⟩
  rw [if_pos c8]
  by_cases c9 : x9 = y9
  case neg => exact ⟨false, by rw [if_neg c9]; exact hT _ rfl, ⟨fun h => by simp at h, fun h => (c9 h.2.2.2.2.2.2.2.2.2.1).elim⟩⟩
  rw [if_pos c9]
  by_cases c10 : x10 = y10
  case neg => exact ⟨false, by rw [if_neg c10]; exact hT _ rfl, ⟨fun h => by simp at h, fun h => (c10 h.2.2.2.2.2.2.2.2.2.2.1).elim⟩⟩
  rw [if_pos c10]
  by_cases c11 : (D.length : Int) = (E.length : Int)
  · obtain ⟨b, hb, hi⟩ := sj_l0 x0 x1 x2 x3 x4 x5 x6 x7 x8 x9 x10 D y0 y1 y2 y3 y4 y5 y6 y7 y8 y9 y10 E (by omega) (by omega) D.length 0 k (by omega) (by omega)
    rw [show ((0 : Nat) : Int) = 0 from rfl] at hb
    refine ⟨b, by rw [prebendref13_SameJob.j0.eq_2, if_neg (by simp [c11])]; exact hb, ?_⟩
    rw [hi, List.drop_zero, List.drop_zero]
    exact ⟨fun h => ⟨c0, c1, c2, c3, c4, c5, c6, c7, c8, c9, c10, h⟩, fun h => h.2.2.2.2.2.2.2.2.2.2.2⟩
  · exact ⟨false, hT _ (by simp [bne, c11]), ⟨fun h => by simp at h, fun h => (c11 (by rw [h.2.2.2.2.2.2.2.2.2.2.2])).elim⟩⟩
section
variable (a0 a1 a2 : Int) (F : List S93) (A : List S95) (R : List S97) (J : List S100) (Ks : List ByteArray) (b0 b1 b2 : Int) (F2 : List S93) (A2 : List S95) (R2 : List S97) (J2 : List S100) (Ks2 : List ByteArray)
theorem sm_l4 (hl : F.length ≤ 8 ∧ A.length ≤ 16 ∧ R.length ≤ 16 ∧ J.length ≤ 16 ∧ Ks.length ≤ 8) (he : F.length = F2.length ∧ A.length = A2.length ∧ R.length = R2.length ∧ J.length = J2.length ∧ Ks.length = Ks2.length) : ∀ (n j K : Nat), j + n = Ks.length → n + 20 ≤ K → ∃ b, prebendref13_Same.l4 K (j : Int) a0 a1 a2 F A R J Ks b0 b1 b2 F2 A2 R2 J2 Ks2 = some b ∧ (b = true ↔ (Ks.drop j = Ks2.drop j))
  | 0, j, K, h, hK => by
    obtain ⟨k, rfl⟩ : ∃ k, K = k + 1 := ⟨K - 1, by omega⟩
    exact ⟨true, by rw [prebendref13_Same.l4.eq_2, if_neg (by omega)], by rw [List.drop_eq_nil_of_le (by omega), List.drop_eq_nil_of_le (by omega)]; simp⟩
  | n + 1, j, K, h, hK => by
    obtain ⟨k, rfl⟩ : ∃ k, K = k + 1 := ⟨K - 1, by omega⟩
    have h1 : j < Ks.length := by omega
    have h2 : j < Ks2.length := by omega
    have r1 : rdOf ByteArray.empty Ks (j : Int) = Ks[j] := rd_at _ Ks j h1
    have r2 : rdOf ByteArray.empty Ks2 (j : Int) = Ks2[j] := rd_at _ Ks2 j h2
    rw [prebendref13_Same.l4.eq_2, if_pos (by omega), if_pos (by omega), if_pos (by omega), r1, r2, up1 j (by omega)]
    by_cases hc : Ks[j] = Ks2[j]
    · obtain ⟨b, hb, hi⟩ := sm_l4 hl he n (j + 1) k (by omega) (by omega)
      refine ⟨b, by rw [if_pos (by rw [hc])]; exact hb, ?_⟩
      rw [hi, drop_iff h1 h2]
      exact ⟨fun h => ⟨hc, h⟩, fun h => h.2⟩
    · refine ⟨false, by rw [if_neg (fun q => hc ((tl_iff _ _).1 q))], ?_⟩
      rw [drop_iff h1 h2]
      exact ⟨fun h => by simp at h, fun h => (hc h.1).elim⟩
variable (hj : ∀ x ∈ J, x.f11.length ≤ 16)
include hj in
theorem sm_l3 (hl : F.length ≤ 8 ∧ A.length ≤ 16 ∧ R.length ≤ 16 ∧ J.length ≤ 16 ∧ Ks.length ≤ 8) (he : F.length = F2.length ∧ A.length = A2.length ∧ R.length = R2.length ∧ J.length = J2.length ∧ Ks.length = Ks2.length) : ∀ (n j K : Nat), j + n = J.length → n + 300 ≤ K → ∃ b, prebendref13_Same.l3 K (j : Int) a0 a1 a2 F A R J Ks b0 b1 b2 F2 A2 R2 J2 Ks2 = some b ∧ (b = true ↔ (J.drop j = J2.drop j ∧ Ks = Ks2))
  | 0, j, K, h, hK => by
    obtain ⟨k, rfl⟩ : ∃ k, K = k + 1 := ⟨K - 1, by omega⟩
    obtain ⟨b, hb, hi⟩ := sm_l4 a0 a1 a2 F A R J Ks b0 b1 b2 F2 A2 R2 J2 Ks2 hl he Ks.length 0 k (by omega) (by have := hl; omega)
    rw [show ((0 : Nat) : Int) = 0 from rfl] at hb
    refine ⟨b, by rw [prebendref13_Same.l3.eq_2, if_neg (by omega)]; exact hb, ?_⟩
    rw [hi, List.drop_zero, List.drop_zero, List.drop_eq_nil_of_le (by omega), List.drop_eq_nil_of_le (by omega)]; simp
  | n + 1, j, K, h, hK => by
    obtain ⟨k, rfl⟩ : ∃ k, K = k + 1 := ⟨K - 1, by omega⟩
    have h1 : j < J.length := by omega
    have h2 : j < J2.length := by omega
    have r1 : rd_T100 J (j : Int) = J[j] := rd_at _ J j h1
    have r2 : rd_T100 J2 (j : Int) = J2[j] := rd_at _ J2 j h2
    rw [prebendref13_Same.l3.eq_2, if_pos (by omega), if_pos (by omega), if_pos (by omega), r1, r2, up1 j (by omega)]
    by_cases hc : J[j] = J2[j]
    · obtain ⟨b, hb, hi⟩ := sm_l3 hl he n (j + 1) k (by omega) (by omega)
      obtain ⟨b1, hb1, hi1⟩ := sj_f J[j] J2[j] k (by have := hj _ (List.getElem_mem h1); omega) (by omega)
      have hbt : b1 = true := hi1.2 hc
      subst hbt
      refine ⟨b, by rw [hb1, Option.bind_some, if_pos rfl]; exact hb, ?_⟩
      rw [hi, drop_iff h1 h2]
      exact ⟨fun h => ⟨⟨hc, h.1⟩, h.2⟩, fun h => ⟨h.1.2, h.2⟩⟩
    · obtain ⟨b1, hb1, hi1⟩ := sj_f J[j] J2[j] k (by have := hj _ (List.getElem_mem h1); omega) (by omega)
      have hbt : b1 = false := by cases b1 with
        | false => rfl
        | true => exact absurd (hi1.1 rfl) hc
      subst hbt
      refine ⟨false, by rw [hb1, Option.bind_some, if_neg (by simp)], ?_⟩
      rw [drop_iff h1 h2]
      exact ⟨fun h => by simp at h, fun h => (hc h.1.1).elim⟩
include hj in
theorem sm_l2 (hl : F.length ≤ 8 ∧ A.length ≤ 16 ∧ R.length ≤ 16 ∧ J.length ≤ 16 ∧ Ks.length ≤ 8) (he : F.length = F2.length ∧ A.length = A2.length ∧ R.length = R2.length ∧ J.length = J2.length ∧ Ks.length = Ks2.length) : ∀ (n j K : Nat), j + n = R.length → n + 320 ≤ K → ∃ b, prebendref13_Same.l2 K (j : Int) a0 a1 a2 F A R J Ks b0 b1 b2 F2 A2 R2 J2 Ks2 = some b ∧ (b = true ↔ (R.drop j = R2.drop j ∧ J = J2 ∧ Ks = Ks2))
  | 0, j, K, h, hK => by
    obtain ⟨k, rfl⟩ : ∃ k, K = k + 1 := ⟨K - 1, by omega⟩
    obtain ⟨b, hb, hi⟩ := sm_l3 a0 a1 a2 F A R J Ks b0 b1 b2 F2 A2 R2 J2 Ks2 hj hl he J.length 0 k (by omega) (by have := hl; omega)
    rw [show ((0 : Nat) : Int) = 0 from rfl] at hb
    refine ⟨b, by rw [prebendref13_Same.l2.eq_2, if_neg (by omega)]; exact hb, ?_⟩
    rw [hi, List.drop_zero, List.drop_zero, List.drop_eq_nil_of_le (by omega), List.drop_eq_nil_of_le (by omega)]; simp
  | n + 1, j, K, h, hK => by
    obtain ⟨k, rfl⟩ : ∃ k, K = k + 1 := ⟨K - 1, by omega⟩
    have h1 : j < R.length := by omega
    have h2 : j < R2.length := by omega
    have r1 : rd_T97 R (j : Int) = R[j] := rd_at _ R j h1
    have r2 : rd_T97 R2 (j : Int) = R2[j] := rd_at _ R2 j h2
    rw [prebendref13_Same.l2.eq_2, if_pos (by omega), if_pos (by omega), if_pos (by omega), r1, r2, up1 j (by omega)]
    by_cases hc : R[j] = R2[j]
    · obtain ⟨b, hb, hi⟩ := sm_l2 hl he n (j + 1) k (by omega) (by omega)
      refine ⟨b, by rw [if_neg (by rw [(eq97 _ _).2 hc]; simp)]; exact hb, ?_⟩
      rw [hi, drop_iff h1 h2]
      exact ⟨fun h => ⟨⟨hc, h.1⟩, h.2⟩, fun h => ⟨h.1.2, h.2⟩⟩
    · refine ⟨false, by rw [if_pos (ne97 _ _ hc)], ?_⟩
      rw [drop_iff h1 h2]
      exact ⟨fun h => by simp at h, fun h => (hc h.1.1).elim⟩
include hj in
theorem sm_l1 (hl : F.length ≤ 8 ∧ A.length ≤ 16 ∧ R.length ≤ 16 ∧ J.length ≤ 16 ∧ Ks.length ≤ 8) (he : F.length = F2.length ∧ A.length = A2.length ∧ R.length = R2.length ∧ J.length = J2.length ∧ Ks.length = Ks2.length) : ∀ (n j K : Nat), j + n = A.length → n + 340 ≤ K → ∃ b, prebendref13_Same.l1 K (j : Int) a0 a1 a2 F A R J Ks b0 b1 b2 F2 A2 R2 J2 Ks2 = some b ∧ (b = true ↔ (A.drop j = A2.drop j ∧ R = R2 ∧ J = J2 ∧ Ks = Ks2))
  | 0, j, K, h, hK => by
    obtain ⟨k, rfl⟩ : ∃ k, K = k + 1 := ⟨K - 1, by omega⟩
    obtain ⟨b, hb, hi⟩ := sm_l2 a0 a1 a2 F A R J Ks b0 b1 b2 F2 A2 R2 J2 Ks2 hj hl he R.length 0 k (by omega) (by have := hl; omega)
    rw [show ((0 : Nat) : Int) = 0 from rfl] at hb
    refine ⟨b, by rw [prebendref13_Same.l1.eq_2, if_neg (by omega)]; exact hb, ?_⟩
    rw [hi, List.drop_zero, List.drop_zero, List.drop_eq_nil_of_le (by omega), List.drop_eq_nil_of_le (by omega)]; simp
  | n + 1, j, K, h, hK => by
    obtain ⟨k, rfl⟩ : ∃ k, K = k + 1 := ⟨K - 1, by omega⟩
    have h1 : j < A.length := by omega
    have h2 : j < A2.length := by omega
    have r1 : rd_T95 A (j : Int) = A[j] := rd_at _ A j h1
    have r2 : rd_T95 A2 (j : Int) = A2[j] := rd_at _ A2 j h2
    rw [prebendref13_Same.l1.eq_2, if_pos (by omega), if_pos (by omega), if_pos (by omega), r1, r2, up1 j (by omega)]
    by_cases hc : A[j] = A2[j]
    · obtain ⟨b, hb, hi⟩ := sm_l1 hl he n (j + 1) k (by omega) (by omega)
      refine ⟨b, by rw [if_neg (by rw [(eq95 _ _).2 hc]; simp)]; exact hb, ?_⟩
      rw [hi, drop_iff h1 h2]
      exact ⟨fun h => ⟨⟨hc, h.1⟩, h.2⟩, fun h => ⟨h.1.2, h.2⟩⟩
    · refine ⟨false, by rw [if_pos (ne95 _ _ hc)], ?_⟩
      rw [drop_iff h1 h2]
      exact ⟨fun h => by simp at h, fun h => (hc h.1.1).elim⟩
include hj in
theorem sm_l0 (hl : F.length ≤ 8 ∧ A.length ≤ 16 ∧ R.length ≤ 16 ∧ J.length ≤ 16 ∧ Ks.length ≤ 8) (he : F.length = F2.length ∧ A.length = A2.length ∧ R.length = R2.length ∧ J.length = J2.length ∧ Ks.length = Ks2.length) : ∀ (n j K : Nat), j + n = F.length → n + 360 ≤ K → ∃ b, prebendref13_Same.l0 K (j : Int) a0 a1 a2 F A R J Ks b0 b1 b2 F2 A2 R2 J2 Ks2 = some b ∧ (b = true ↔ (F.drop j = F2.drop j ∧ A = A2 ∧ R = R2 ∧ J = J2 ∧ Ks = Ks2))
  | 0, j, K, h, hK => by
    obtain ⟨k, rfl⟩ : ∃ k, K = k + 1 := ⟨K - 1, by omega⟩
    obtain ⟨b, hb, hi⟩ := sm_l1 a0 a1 a2 F A R J Ks b0 b1 b2 F2 A2 R2 J2 Ks2 hj hl he A.length 0 k (by omega) (by have := hl; omega)
    rw [show ((0 : Nat) : Int) = 0 from rfl] at hb
    refine ⟨b, by rw [prebendref13_Same.l0.eq_2, if_neg (by omega)]; exact hb, ?_⟩
    rw [hi, List.drop_zero, List.drop_zero, List.drop_eq_nil_of_le (by omega), List.drop_eq_nil_of_le (by omega)]; simp
  | n + 1, j, K, h, hK => by
    obtain ⟨k, rfl⟩ : ∃ k, K = k + 1 := ⟨K - 1, by omega⟩
    have h1 : j < F.length := by omega
    have h2 : j < F2.length := by omega
    have r1 : rd_T93 F (j : Int) = F[j] := rd_at _ F j h1
    have r2 : rd_T93 F2 (j : Int) = F2[j] := rd_at _ F2 j h2
    rw [prebendref13_Same.l0.eq_2, if_pos (by omega), if_pos (by omega), if_pos (by omega), r1, r2, up1 j (by omega)]
    by_cases hc : F[j] = F2[j]
    · obtain ⟨b, hb, hi⟩ := sm_l0 hl he n (j + 1) k (by omega) (by omega)
      refine ⟨b, by rw [if_neg (by rw [(eq93 _ _).2 hc]; simp)]; exact hb, ?_⟩
      rw [hi, drop_iff h1 h2]
      exact ⟨fun h => ⟨⟨hc, h.1⟩, h.2⟩, fun h => ⟨h.1.2, h.2⟩⟩
    · refine ⟨false, by rw [if_pos (ne93 _ _ hc)], ?_⟩
      rw [drop_iff h1 h2]
      exact ⟨fun h => by simp at h, fun h => (hc h.1.1).elim⟩
include hj in
theorem same13 (hl : F.length ≤ 8 ∧ A.length ≤ 16 ∧ R.length ≤ 16 ∧ J.length ≤ 16 ∧ Ks.length ≤ 8) (K : Nat) (hK : 400 ≤ K) : ∃ b, prebendref13_Same.f K a0 a1 a2 F A R J Ks b0 b1 b2 F2 A2 R2 J2 Ks2 = some b ∧ (b = true ↔ (a0, a1, a2, F, A, R, J, Ks) = (b0, b1, b2, F2, A2, R2, J2, Ks2)) := by
  obtain ⟨k, rfl⟩ : ∃ k, K = k + 1 := ⟨K - 1, by omega⟩
  have hT : ∀ c, c = true → prebendref13_Same.j0 (k + 1) c a0 a1 a2 F A R J Ks b0 b1 b2 F2 A2 R2 J2 Ks2 = some false := fun c hc => by rw [prebendref13_Same.j0.eq_2, if_pos hc]
  unfold prebendref13_Same.f
  simp only [Prod.mk.injEq]
  by_cases c0 : a0 = b0
  case neg => exact ⟨false, by rw [if_neg c0]; exact hT _ rfl, ⟨fun h => by simp at h, fun h => (c0 h.1).elim⟩⟩
  rw [if_pos c0]
  by_cases c1 : a1 = b1
  case neg => exact ⟨false, by rw [if_neg c1]; exact hT _ rfl, ⟨fun h => by simp at h, fun h => (c1 h.2.1).elim⟩⟩
  rw [if_pos c1]
  by_cases c2 : a2 = b2
  case neg => exact ⟨false, by rw [if_neg c2]; exact hT _ rfl, ⟨fun h => by simp at h, fun h => (c2 h.2.2.1).elim⟩⟩
  rw [if_pos c2]
  by_cases c3 : (F.length : Int) = (F2.length : Int)
  case neg => exact ⟨false, by rw [if_neg c3]; exact hT _ rfl, ⟨fun h => by simp at h, fun h => (c3 (by rw [h.2.2.2.1])).elim⟩⟩
  rw [if_pos c3]
  by_cases c4 : (A.length : Int) = (A2.length : Int)
  case neg => exact ⟨false, by rw [if_neg c4]; exact hT _ rfl, ⟨fun h => by simp at h, fun h => (c4 (by rw [h.2.2.2.2.1])).elim⟩⟩
  rw [if_pos c4]
  by_cases c5 : (R.length : Int) = (R2.length : Int)
  case neg => exact ⟨false, by rw [if_neg c5]; exact hT _ rfl, ⟨fun h => by simp at h, fun h => (c5 (by rw [h.2.2.2.2.2.1])).elim⟩⟩
  rw [if_pos c5]
  by_cases c6 : (J.length : Int) = (J2.length : Int)
  case neg => exact ⟨false, by rw [if_neg c6]; exact hT _ rfl, ⟨fun h => by simp at h, fun h => (c6 (by rw [h.2.2.2.2.2.2.1])).elim⟩⟩
  rw [if_pos c6]
  by_cases c7 : (Ks.length : Int) = (Ks2.length : Int)
  · obtain ⟨b, hb, hi⟩ := sm_l0 a0 a1 a2 F A R J Ks b0 b1 b2 F2 A2 R2 J2 Ks2 hj hl (by omega) F.length 0 k (by omega) (by omega)
    rw [show ((0 : Nat) : Int) = 0 from rfl] at hb
    refine ⟨b, by rw [prebendref13_Same.j0.eq_2, if_neg (by simp [c7])]; exact hb, ?_⟩
    rw [hi, List.drop_zero, List.drop_zero]
    exact ⟨fun h => ⟨c0, c1, c2, h⟩, fun h => h.2.2.2⟩
  · exact ⟨false, hT _ (by simp [bne, c7]), ⟨fun h => by simp at h, fun h => (c7 (by rw [h.2.2.2.2.2.2.2])).elim⟩⟩
end

def OkT (a0 a1 a2 : Int) (F : List S93) (A : List S95) (R : List S97) (J : List S100) (Ks : List ByteArray) : Prop := (W64 a0 ∧ W64 a1 ∧ W64 a2) ∧ ((F.length : Int) ≤ 8 ∧ ∀ x ∈ F, oFund x) ∧ ((A.length : Int) ≤ 16 ∧ ∀ x ∈ A, oAlloc x) ∧ ((R.length : Int) ≤ 16 ∧ ∀ x ∈ R, oRate x) ∧ ((J.length : Int) ≤ 16 ∧ ∀ x ∈ J, oJob x) ∧ ((Ks.length : Int) ≤ 8 ∧ ∀ x ∈ Ks, oKey x)
section
variable {a0 a1 a2 : Int} {F : List S93} {A : List S95} {R : List S97} {J : List S100} {Ks : List ByteArray}
theorem OkT.lim (h : OkT a0 a1 a2 F A R J Ks) : Lim F A R J Ks := by
  obtain ⟨_, h1, h2, h3, h4, h5⟩ := h
  exact ⟨⟨by omega, by omega, by omega, by omega, by omega⟩, fun x hx => (h1.2 x hx).1, fun x hx => by have := (h4.2 x hx).2.1; omega, fun x hx => h5.2 x hx⟩
theorem st_fwd (h : OkT a0 a1 a2 F A R J Ks) (r : List Int) : snapF (encT a0 a1 a2 F A R J Ks ++ r) = if r = [] then (a0, a1, a2, F, A, R, J, Ks, 0) else snapBad := by
  obtain ⟨h0, h1, h2, h3, h4, h5⟩ := h
  have e : encT a0 a1 a2 F A R J Ks ++ r = flat8 [a0, a1, a2] ++ ((beN 8 (F.length : Int) ++ encs eFund F) ++ ((beN 8 (A.length : Int) ++ encs eAlloc A) ++ ((beN 8 (R.length : Int) ++ encs eRate R) ++ ((beN 8 (J.length : Int) ++ encs eJob J) ++ ((beN 8 (Ks.length : Int) ++ encs wd Ks) ++ r))))) := by
    unfold encT tA tR tJ tK; simp only [List.append_assoc]
  have hw : ∀ x ∈ [a0, a1, a2], W64 x := by simp only [List.mem_cons, List.not_mem_nil, or_false, forall_eq_or_imp, forall_eq]; exact h0
  have i0 := ints_fwd [a0, a1, a2] ((beN 8 (F.length : Int) ++ encs eFund F) ++ ((beN 8 (A.length : Int) ++ encs eAlloc A) ++ ((beN 8 (R.length : Int) ++ encs eRate R) ++ ((beN 8 (J.length : Int) ++ encs eJob J) ++ ((beN 8 (Ks.length : Int) ++ encs wd Ks) ++ r))))) hw
  rw [show [a0, a1, a2].length = 3 from rfl] at i0
  have iF := (list_codec fund_codec 8 (by omega)).fwd F ((beN 8 (A.length : Int) ++ encs eAlloc A) ++ ((beN 8 (R.length : Int) ++ encs eRate R) ++ ((beN 8 (J.length : Int) ++ encs eJob J) ++ ((beN 8 (Ks.length : Int) ++ encs wd Ks) ++ r)))) false h1
  have iA := (list_codec alloc_codec 16 (by omega)).fwd A ((beN 8 (R.length : Int) ++ encs eRate R) ++ ((beN 8 (J.length : Int) ++ encs eJob J) ++ ((beN 8 (Ks.length : Int) ++ encs wd Ks) ++ r))) false h2
  have iR := (list_codec rate_codec 16 (by omega)).fwd R ((beN 8 (J.length : Int) ++ encs eJob J) ++ ((beN 8 (Ks.length : Int) ++ encs wd Ks) ++ r)) false h3
  have iJ := (list_codec job_codec 16 (by omega)).fwd J ((beN 8 (Ks.length : Int) ++ encs wd Ks) ++ r) false h4
  have iK := (list_codec key_codec 8 (by omega)).fwd Ks r false h5
  rw [e]
  generalize flat8 [a0, a1, a2] ++ ((beN 8 (F.length : Int) ++ encs eFund F) ++ ((beN 8 (A.length : Int) ++ encs eAlloc A) ++ ((beN 8 (R.length : Int) ++ encs eRate R) ++ ((beN 8 (J.length : Int) ++ encs eJob J) ++ ((beN 8 (Ks.length : Int) ++ encs wd Ks) ++ r))))) = l at *
  have qF := (show sF l = rList dFund 8 ((rInts 3 (l, false)).2, false) from rfl)
  rw [i0] at qF
  replace qF := qF.trans iF
  have qA := (show sA l = rList dAlloc 16 (sF l).2 from rfl)
  rw [qF] at qA
  replace qA := qA.trans iA
  have qR := (show sR l = rList dRate 16 (sA l).2 from rfl)
  rw [qA] at qR
  replace qR := qR.trans iR
  have qJ := (show sJ l = rList dJob 16 (sR l).2 from rfl)
  rw [qR] at qJ
  replace qJ := qJ.trans iJ
  have qK := (show sK l = rList dKey 8 (sJ l).2 from rfl)
  rw [qJ] at qK
  replace qK := qK.trans iK
  unfold snapF
  rw [qK, qJ, qR, qA, qF, i0]
  by_cases hr : r = []
  · rw [if_pos hr, if_pos ⟨rfl, by simp [rEnd, hr]⟩]; rfl
  · rw [if_neg hr, if_neg (by simp [rEnd, hr])]
theorem st_cases (l : List Int) : snapF l = snapBad ∨ (snapF l).2.2.2.2.2.2.2.2 = 0 := by
  unfold snapF
  split
  · exact .inr rfl
  · exact .inl rfl
theorem st_inv (l : List Int) (hb : Byt l) (h : (snapF l).2.2.2.2.2.2.2.2 = 0) : ∃ a0 a1 a2 F A R J Ks, snapF l = (a0, a1, a2, F, A, R, J, Ks, 0) ∧ l = encT a0 a1 a2 F A R J Ks ∧ OkT a0 a1 a2 F A R J Ks := by
  have hc : (sK l).2.2 = false ∧ rEnd (sK l).2.1 = true := by
    refine Decidable.byContradiction fun c => ?_
    unfold snapF at h
    rw [if_neg c] at h
    simp [snapBad] at h
  have cF := list_codec fund_codec 8 (by omega)
  have cA := list_codec alloc_codec 16 (by omega)
  have cR := list_codec rate_codec 16 (by omega)
  have cJ := list_codec job_codec 16 (by omega)
  have cK := list_codec key_codec 8 (by omega)
  have c4 : (sK l).2.1.2 = false ∧ (sK l).2.1.1 = [] := by
    have := hc.2
    unfold rEnd at this
    simpa using this
  have gK := cK.good (sJ l).2 c4.1 hc.1
  have gJ := cJ.good (sR l).2 gK.1 gK.2
  have gR := cR.good (sA l).2 gJ.1 gJ.2
  have gA := cA.good (sF l).2 gR.1 gR.2
  have gF := cF.good ((rInts 3 (l, false)).2, false) gA.1 gA.2
  obtain ⟨e0, w0, b0⟩ := ints_inv 3 (l, false) hb gF.1
  obtain ⟨eF, wF, bF⟩ := cF.inv ((rInts 3 (l, false)).2, false) b0 gA.1 gA.2
  obtain ⟨eA, wA, bA⟩ := cA.inv (sF l).2 bF gR.1 gR.2
  obtain ⟨eR, wR, bR⟩ := cR.inv (sA l).2 bA gJ.1 gJ.2
  obtain ⟨eJ, wJ, bJ⟩ := cJ.inv (sR l).2 bR gK.1 gK.2
  obtain ⟨eK, wK, bK⟩ := cK.inv (sJ l).2 bJ c4.1 hc.1
  obtain ⟨a0, a1, a2, hy⟩ := three _ (rInts_len 3 (l, false))
  rw [hy] at e0 w0
  simp only [List.mem_cons, List.not_mem_nil, or_false, forall_eq_or_imp, forall_eq] at w0
  refine ⟨a0, a1, a2, (sF l).1, (sA l).1, (sR l).1, (sJ l).1, (sK l).1, ?_, ?_, ⟨w0, wF, wA, wR, wJ, wK⟩⟩
  · unfold snapF
    rw [if_pos hc, hy]; rfl
  · have e0' : l = flat8 [a0, a1, a2] ++ (rInts 3 (l, false)).2.1 := e0
    change (rInts 3 (l, false)).2.1 = beN 8 ((sF l).1.length : Int) ++ encs eFund (sF l).1 ++ (sF l).2.1.1 at eF
    change (sF l).2.1.1 = beN 8 ((sA l).1.length : Int) ++ encs eAlloc (sA l).1 ++ (sA l).2.1.1 at eA
    change (sA l).2.1.1 = beN 8 ((sR l).1.length : Int) ++ encs eRate (sR l).1 ++ (sR l).2.1.1 at eR
    change (sR l).2.1.1 = beN 8 ((sJ l).1.length : Int) ++ encs eJob (sJ l).1 ++ (sJ l).2.1.1 at eJ
    change (sJ l).2.1.1 = beN 8 ((sK l).1.length : Int) ++ encs wd (sK l).1 ++ (sK l).2.1.1 at eK
    rw [c4.2, List.append_nil] at eK
    rw [eK] at eJ
    rw [eJ] at eR
    rw [eR] at eA
    rw [eA] at eF
    rw [eF] at e0'
    refine e0'.trans ?_
    unfold encT tA tR tJ tK
    simp only [List.append_assoc]
end

theorem rMany_ok {m : Int} {s : List Int × Bool} (h : (rMany m s).2.2 = false) : (0 ≤ (rInt s).1 ∧ (rInt s).1 ≤ m) ∧ rMany m s = rInt s := by
  unfold rMany at h ⊢
  by_cases c : 0 ≤ (rInt s).1 ∧ (rInt s).1 ≤ m
  · exact ⟨c, if_pos c⟩
  · rw [if_neg c] at h; simp at h
section
variable {α : Type} {one : RS → α × RS} {enc : α → List Int} {ok : α → Prop}
theorem qlist_codec (hc : Codec one enc ok) (m : Int) (hm : 0 ≤ m ∧ m ≤ 100) : Codec (qList one m) (fun L => beN 8 (L.length : Int) ++ encs enc L) (fun L => (L.length : Int) ≤ m ∧ ∀ x ∈ L, ok x) := by
  refine ⟨fun L r b h => ?_, fun s h h2 => ?_, fun s hb h h2 => ?_⟩
  · unfold qList rMany
    have hw : W64 (L.length : Int) := by have := h.1; unfold W64; omega
    simp only [List.append_assoc]
    rw [rInt_be _ _ hw]
    simp only
    rw [if_pos ⟨by omega, h.1⟩]
    simp only
    rw [Int.toNat_natCast, loop_fwd hc L r b [] h.2]
    simp
  · unfold qList at h h2
    obtain ⟨g1, g2⟩ := loop_good hc _ _ _ h h2
    obtain ⟨_, e⟩ := rMany_ok g1
    rw [e] at g1
    exact ⟨(int_ok g1).1, g2⟩
  · unfold qList at h h2 ⊢
    obtain ⟨g1, g2⟩ := loop_good hc _ _ _ h h2
    obtain ⟨c, e⟩ := rMany_ok g1
    rw [e] at g1 h h2 ⊢
    obtain ⟨e1, hw, hb2⟩ := inv_int hb g1
    obtain ⟨L, q1, q2, q3, q4, q5⟩ := loop_inv hc _ _ _ hb2 h h2
    have hL : (rLoop one (rInt s.1).1.toNat ((rInt s.1).2, s.2) []).1 = L := by simpa using q1
    have hn : (L.length : Int) = (rInt s.1).1 := by omega
    simp only [hL]
    refine ⟨?_, ⟨by omega, q4⟩, q5⟩
    rw [e1, hn, List.append_assoc]
    congr 1
theorem rLoop_keep (hk : ∀ s, (one s).2.2 = s.2) : ∀ (n : Nat) (s : RS) (out : List α), (rLoop one n s out).2.2 = s.2
  | 0, s, out => rfl
  | n + 1, s, out => by rw [rLoop, rLoop_keep hk n, hk]
theorem qList_keep (hk : ∀ s, (one s).2.2 = s.2) (m : Int) (s : RS) : (qList one m s).2.2 = s.2 := rLoop_keep hk _ _ _
end
theorem qjob_codec : Codec qJob eJob oJob := by
  have hl := qlist_codec draw_codec 16 (by omega)
  refine ⟨fun x r b h => ?_, fun s h h2 => ?_, fun s hb h h2 => ?_⟩
  · have e := ints_fwd [x.f0, x.f1, x.f2, x.f3, x.f4, x.f5, x.f6, x.f7, x.f8, x.f9, x.f10] ((beN 8 (x.f11.length : Int) ++ encs eDraw x.f11) ++ r) (by simp only [List.mem_cons, List.not_mem_nil, or_false, forall_eq_or_imp, forall_eq]; exact h.1)
    have e2 := hl.fwd x.f11 r b h.2
    unfold qJob eJob; simp only [List.append_assoc] at e e2 ⊢
    rw [show (11 : Nat) = [x.f0, x.f1, x.f2, x.f3, x.f4, x.f5, x.f6, x.f7, x.f8, x.f9, x.f10].length from rfl, e]
    simp only
    rw [e2]
    rfl
  · obtain ⟨g1, g2⟩ := hl.good _ h h2
    exact ⟨ints_good _ _ g1, g2⟩
  · obtain ⟨g1, g2⟩ := hl.good _ h h2
    obtain ⟨e, hw, hb2⟩ := ints_inv 11 s.1 hb g1
    obtain ⟨e2, ho, hb3⟩ := hl.inv _ hb2 h h2
    obtain ⟨y0, y1, y2, y3, y4, y5, y6, y7, y8, y9, y10, hy⟩ := eleven _ (rInts_len 11 s.1)
    unfold qJob eJob oJob
    generalize qList dDraw 16 ((rInts 11 s.1).2, s.2) = D at *
    rw [hy] at e hw ⊢
    simp only [List.mem_cons, List.not_mem_nil, or_false, forall_eq_or_imp, forall_eq] at hw
    refine ⟨?_, ⟨hw, ho⟩, hb3⟩
    rw [e, e2, List.append_assoc]
    rfl
section
variable {a0 a1 a2 : Int} {F : List S93} {A : List S95} {R : List S97} {J : List S100} {Ks : List ByteArray}
set_option maxHeartbeats 4000000 in
theorem rf_fwd (h : OkT a0 a1 a2 F A R J Ks) (r : List Int) : refF (encT a0 a1 a2 F A R J Ks ++ r) = if r = [] then (a0, a1, a2, F, A, R, J, Ks, 0) else snapBad := by
  obtain ⟨h0, h1, h2, h3, h4, h5⟩ := h
  have e : encT a0 a1 a2 F A R J Ks ++ r = flat8 [a0, a1, a2] ++ ((beN 8 (F.length : Int) ++ encs eFund F) ++ ((beN 8 (A.length : Int) ++ encs eAlloc A) ++ ((beN 8 (R.length : Int) ++ encs eRate R) ++ ((beN 8 (J.length : Int) ++ encs eJob J) ++ ((beN 8 (Ks.length : Int) ++ encs wd Ks) ++ r))))) := by
    unfold encT tA tR tJ tK; simp only [List.append_assoc]
  have hw : ∀ x ∈ [a0, a1, a2], W64 x := by simp only [List.mem_cons, List.not_mem_nil, or_false, forall_eq_or_imp, forall_eq]; exact h0
  have i0 := ints_fwd [a0, a1, a2] ((beN 8 (F.length : Int) ++ encs eFund F) ++ ((beN 8 (A.length : Int) ++ encs eAlloc A) ++ ((beN 8 (R.length : Int) ++ encs eRate R) ++ ((beN 8 (J.length : Int) ++ encs eJob J) ++ ((beN 8 (Ks.length : Int) ++ encs wd Ks) ++ r))))) hw
  rw [show [a0, a1, a2].length = 3 from rfl] at i0
  have iF := (qlist_codec fund_codec 8 (by omega)).fwd F ((beN 8 (A.length : Int) ++ encs eAlloc A) ++ ((beN 8 (R.length : Int) ++ encs eRate R) ++ ((beN 8 (J.length : Int) ++ encs eJob J) ++ ((beN 8 (Ks.length : Int) ++ encs wd Ks) ++ r)))) false h1
  have iA := (qlist_codec alloc_codec 16 (by omega)).fwd A ((beN 8 (R.length : Int) ++ encs eRate R) ++ ((beN 8 (J.length : Int) ++ encs eJob J) ++ ((beN 8 (Ks.length : Int) ++ encs wd Ks) ++ r))) false h2
  have iR := (qlist_codec rate_codec 16 (by omega)).fwd R ((beN 8 (J.length : Int) ++ encs eJob J) ++ ((beN 8 (Ks.length : Int) ++ encs wd Ks) ++ r)) false h3
  have iJ := (qlist_codec qjob_codec 16 (by omega)).fwd J ((beN 8 (Ks.length : Int) ++ encs wd Ks) ++ r) false h4
  have iK := (qlist_codec key_codec 8 (by omega)).fwd Ks r false h5
  rw [e]
  generalize flat8 [a0, a1, a2] ++ ((beN 8 (F.length : Int) ++ encs eFund F) ++ ((beN 8 (A.length : Int) ++ encs eAlloc A) ++ ((beN 8 (R.length : Int) ++ encs eRate R) ++ ((beN 8 (J.length : Int) ++ encs eJob J) ++ ((beN 8 (Ks.length : Int) ++ encs wd Ks) ++ r))))) = l at *
  have pF := (show qF l = qList dFund 8 ((rInts 3 (l, false)).2, false) from rfl)
  rw [i0] at pF
  replace pF := pF.trans iF
  have pA := (show qA l = qList dAlloc 16 (qF l).2 from rfl)
  rw [pF] at pA
  replace pA := pA.trans iA
  have pR := (show qR l = qList dRate 16 (qA l).2 from rfl)
  rw [pA] at pR
  replace pR := pR.trans iR
  have pJ := (show qJ l = qList qJob 16 (qR l).2 from rfl)
  rw [pR] at pJ
  replace pJ := pJ.trans iJ
  have pK := (show qK l = qList dKey 8 (qJ l).2 from rfl)
  rw [pJ] at pK
  replace pK := pK.trans iK
  unfold refF
  rw [pK, pJ, pR, pA, pF, i0]
  by_cases hr : r = []
  · rw [if_pos hr, if_pos (show rEnd (r, false) = true by simp [rEnd, hr])]; rfl
  · rw [if_neg hr, if_neg (show ¬ rEnd (r, false) = true by simp [rEnd, hr])]
theorem rf_cases (l : List Int) : refF l = snapBad ∨ (refF l).2.2.2.2.2.2.2.2 = 0 := by
  unfold refF
  split
  · exact .inr rfl
  · exact .inl rfl
theorem rf_inv (l : List Int) (hb : Byt l) (h : (refF l).2.2.2.2.2.2.2.2 = 0) : ∃ a0 a1 a2 F A R J Ks, refF l = (a0, a1, a2, F, A, R, J, Ks, 0) ∧ l = encT a0 a1 a2 F A R J Ks ∧ OkT a0 a1 a2 F A R J Ks := by
  have hc : (qK l).2.2 = false ∧ rEnd (qK l).2.1 = true := by
    have k1 : (qF l).2.2 = false := qList_keep (one := dFund) (fun _ => rfl) 8 _
    have k2 : (qA l).2.2 = (qF l).2.2 := qList_keep (one := dAlloc) (fun _ => rfl) 16 _
    have k3 : (qR l).2.2 = (qA l).2.2 := qList_keep (one := dRate) (fun _ => rfl) 16 _
    have k4 : (qJ l).2.2 = (qR l).2.2 := qList_keep (one := qJob) (fun s => qList_keep (one := dDraw) (fun _ => rfl) 16 _) 16 _
    have k5 : (qK l).2.2 = (qJ l).2.2 := qList_keep (one := dKey) (fun _ => rfl) 8 _
    refine ⟨k5.trans (k4.trans (k3.trans (k2.trans k1))), ?_⟩
    refine Decidable.byContradiction fun c => ?_
    unfold refF at h
    rw [if_neg c] at h
    simp [snapBad] at h
  have cF := qlist_codec fund_codec 8 (by omega)
  have cA := qlist_codec alloc_codec 16 (by omega)
  have cR := qlist_codec rate_codec 16 (by omega)
  have cJ := qlist_codec qjob_codec 16 (by omega)
  have cK := qlist_codec key_codec 8 (by omega)
  have c4 : (qK l).2.1.2 = false ∧ (qK l).2.1.1 = [] := by
    have := hc.2
    unfold rEnd at this
    simpa using this
  have gK := cK.good (qJ l).2 c4.1 hc.1
  have gJ := cJ.good (qR l).2 gK.1 gK.2
  have gR := cR.good (qA l).2 gJ.1 gJ.2
  have gA := cA.good (qF l).2 gR.1 gR.2
  have gF := cF.good ((rInts 3 (l, false)).2, false) gA.1 gA.2
  obtain ⟨e0, w0, b0⟩ := ints_inv 3 (l, false) hb gF.1
  obtain ⟨eF, wF, bF⟩ := cF.inv ((rInts 3 (l, false)).2, false) b0 gA.1 gA.2
  obtain ⟨eA, wA, bA⟩ := cA.inv (qF l).2 bF gR.1 gR.2
  obtain ⟨eR, wR, bR⟩ := cR.inv (qA l).2 bA gJ.1 gJ.2
  obtain ⟨eJ, wJ, bJ⟩ := cJ.inv (qR l).2 bR gK.1 gK.2
  obtain ⟨eK, wK, bK⟩ := cK.inv (qJ l).2 bJ c4.1 hc.1
  obtain ⟨a0, a1, a2, hy⟩ := three _ (rInts_len 3 (l, false))
  rw [hy] at e0 w0
  simp only [List.mem_cons, List.not_mem_nil, or_false, forall_eq_or_imp, forall_eq] at w0
  refine ⟨a0, a1, a2, (qF l).1, (qA l).1, (qR l).1, (qJ l).1, (qK l).1, ?_, ?_, ⟨w0, wF, wA, wR, wJ, wK⟩⟩
  · unfold refF
    rw [if_pos hc.2, hy]; rfl
  · have e0' : l = flat8 [a0, a1, a2] ++ (rInts 3 (l, false)).2.1 := e0
    change (rInts 3 (l, false)).2.1 = beN 8 ((qF l).1.length : Int) ++ encs eFund (qF l).1 ++ (qF l).2.1.1 at eF
    change (qF l).2.1.1 = beN 8 ((qA l).1.length : Int) ++ encs eAlloc (qA l).1 ++ (qA l).2.1.1 at eA
    change (qA l).2.1.1 = beN 8 ((qR l).1.length : Int) ++ encs eRate (qR l).1 ++ (qR l).2.1.1 at eR
    change (qR l).2.1.1 = beN 8 ((qJ l).1.length : Int) ++ encs eJob (qJ l).1 ++ (qJ l).2.1.1 at eJ
    change (qJ l).2.1.1 = beN 8 ((qK l).1.length : Int) ++ encs wd (qK l).1 ++ (qK l).2.1.1 at eK
    rw [c4.2, List.append_nil] at eK
    rw [eK] at eJ
    rw [eJ] at eR
    rw [eR] at eA
    rw [eA] at eF
    rw [eF] at e0'
    refine e0'.trans ?_
    unfold encT tA tR tJ tK
    simp only [List.append_assoc]
end
theorem ref_same (l : List Int) (hb : Byt l) : refF l = snapF l := by
  rcases st_cases l with h | h
  · rw [h]
    rcases rf_cases l with g | g
    · exact g
    · exfalso
      obtain ⟨a0, a1, a2, F, A, R, J, Ks, hd, he, ho⟩ := rf_inv l hb g
      have := st_fwd ho []
      rw [if_pos rfl, List.append_nil, ← he, h] at this
      simp [snapBad] at this
  · obtain ⟨a0, a1, a2, F, A, R, J, Ks, hd, he, ho⟩ := st_inv l hb h
    have := rf_fwd ho []
    rw [if_pos rfl, List.append_nil, ← he] at this
    rw [this, hd]
theorem lim0 (l : List Int) (hb : Byt l) : ((snapF l).2.2.2.1.length ≤ 8 ∧ (snapF l).2.2.2.2.1.length ≤ 16 ∧ (snapF l).2.2.2.2.2.1.length ≤ 16 ∧ (snapF l).2.2.2.2.2.2.1.length ≤ 16 ∧ (snapF l).2.2.2.2.2.2.2.1.length ≤ 8) ∧ ∀ x ∈ (snapF l).2.2.2.2.2.2.1, x.f11.length ≤ 16 := by
  rcases st_cases l with h | h
  · rw [h]; exact ⟨⟨by decide, by decide, by decide, by decide, by decide⟩, fun x hx => by simp [snapBad] at hx⟩
  · obtain ⟨a0, a1, a2, F, A, R, J, Ks, hd, he, ho⟩ := st_inv l hb h
    rw [hd]
    exact ⟨ho.lim.1, ho.lim.2.2.1⟩

theorem awake13 : prebendlaw13_awake.f 1400 = some true := by
  have h : prebendlaw13_awake.f 1350 = some true := by decide +kernel
  have hm : ∀ j, prebendlaw13_awake.f (1350 + j) = some true := fun j => by
    induction j with
    | zero => exact h
    | succ j ih => exact prebendlaw13_awake.mono _ _ ih
  exact hm 50
theorem SnapDecodes : prebendlaw13_SnapDecodes.Pure := by
  intro l h0 h1 h2
  refine ⟨1400, ?_⟩
  have hb : Byt l := fun x hx => by
    have := h2 x hx
    simpa [Lit.wf, IntKind.min, IntKind.max, IntKind.signed, IntKind.bits] using this
  have hl : l.length < 140737488355328 := by omega
  unfold prebendlaw13_SnapDecodes.f
  rw [show snap_Decode.f l = some (snapF l) from if_pos ⟨hl, hb⟩, Option.bind_some, show prebendref13_Decode.f l = some (refF l) from if_pos ⟨hl, hb⟩, Option.bind_some, ref_same l hb, awake13, Option.bind_some, if_pos rfl]
  have hl0 := lim0 l hb
  obtain ⟨b, hb2, hi⟩ := same13 (snapF l).1 (snapF l).2.1 (snapF l).2.2.1 (snapF l).2.2.2.1 (snapF l).2.2.2.2.1 (snapF l).2.2.2.2.2.1 (snapF l).2.2.2.2.2.2.1 (snapF l).2.2.2.2.2.2.2.1 (snapF l).1 (snapF l).2.1 (snapF l).2.2.1 (snapF l).2.2.2.1 (snapF l).2.2.2.2.1 (snapF l).2.2.2.2.2.1 (snapF l).2.2.2.2.2.2.1 (snapF l).2.2.2.2.2.2.2.1 hl0.2 hl0.1 1400 (by omega)
  rw [hb2, hi.2 rfl, Option.bind_some, if_pos rfl]
  simp

end Go.Proofs.Ytjmkpcnekghmhaa.Pure
end
section
namespace Go.Proofs.Ytjmkpcnekghmhaa.snapDecodes
open Go.ChangeShapes Go.WideShapes Go.ChangeAt Go.RowKit
open Go.ChangeMaps (open_string shut_string)
set_option linter.unusedVariables false
theorem own : ownKnob Try.prog.godebug = none := by kernel_rfl
theorem laidOut : laidOutB Try.prog = true := by kernel_rfl
def IsRow (k : IntKind) (w : World) (a : Option Addr) (len cap : Nat) (zs : List Int) : Prop :=
  (a = none ∧ len = 0 ∧ cap = 0 ∧ zs = []) ∨
  ∃ x, a = some x ∧ len ≤ cap ∧ cap ≤ maxLen ∧ zs.length = cap ∧ (∀ i, i < zs.length → w.cell? (x.add i) = some (.int k (zs.getD i 0))) ∧ ∀ n ∈ zs, (Lit.int k n).wf = true
set_option maxRecDepth 100000 in
theorem lifted (os : Os) (started : os.Started) (H : Type) (enc : TypeId × Value → H) :
    ReturnsInHanded {} Try.checked os 13 .any (Rows.snapDecodesSpec.pre6 enc Try.prog Try.f13 Rows.snapDecodesRow.domain false) (Rows.snapDecodesSpec.post enc Try.prog Try.f13 false true false false) := by
  refine returnsInHanded_of_change_sized (C := Try.checked) own started (by kernel_rfl) Try.func13
    (ChangeSpec.witness6 (enc := enc) (C := Try.checked) false ⟨#[], #[.slice none 0 0], []⟩ 8 (by kernel_rfl) (by kernel_rfl) (by kernel_rfl) (by kernel_rfl)) ?_
  intro W base args ds gs before hval0 hW hcnd hsz0 _
  have hsz : (DataW.weightsEach Try.prog (Try.f13.params.toList ++ Rows.snapDecodesSpec.plain.varTypes Try.prog) (ds ++ gs)).all (· ≤ reachBytes) = true := hsz0
  have hval : ∀ (j : Nat) t v, Try.f13.params[j]? = some t → args[j]? = some v → Value.okWide Try.prog W .any base t v := hval0
  have hW' := hW
  obtain ⟨p, q, hA0, hV, rfl, hfz, hnd⟩ := hW
  have hA : DataW.TrodAll enc Try.prog W 0 (fun _ => true) true Try.f13.params.toList args.toList ds p := hA0
  rw [Try.params13] at hA hval hsz
  obtain ⟨v0, vs0, d0, ds0, p0, q0, hargs, rfl, rfl, h0, r0⟩ := trodAll_cons hA
  obtain ⟨rfl, rfl, rfl⟩ := trodAll_nil r0
  obtain rfl : args = #[v0] := by cases args; simp_all
  obtain ⟨rfl, rfl⟩ := trodVars_none hV
  obtain ⟨a0, len0, cap0, rfl⟩ := okWide_slice Try.underlying22 (hval 0 22 v0 rfl rfl)
  have k0 := h0
  have lt0 : ∀ x ∈ p0, x.block < W.heap.size := by obtain ⟨m, hm⟩ := k0; exact DataW.trod_lt m _ _ _ hm
  obtain ⟨z0, w0⟩ : ∃ zs, IsRow .u8 W a0 len0 cap0 zs := by
    obtain ⟨fuel, hf⟩ := h0
    rcases open_ints Try.underlying22 Try.underlying5 (by kernel_rfl) hf with ⟨hcs, _⟩ | ⟨x, l, c, zs, hcs, _, hl, hm, hz, _, hcell, hwz⟩
    · simp [Value.cells] at hcs
      obtain ⟨rfl, rfl, rfl⟩ := hcs
      exact ⟨[], .inl ⟨rfl, rfl, rfl, rfl⟩⟩
    · simp [Value.cells] at hcs
      obtain ⟨rfl, rfl, rfl⟩ := hcs
      exact ⟨zs, .inr ⟨_, rfl, hl, hm, by simpa using hz, hcell, hwz⟩⟩
  have y0 : len0 * 1 ≤ 140737488351232 := Go.Proofs.YtjmkpcnekghmhaaW.PrintWords.sized_ints hsz (j := 0) (t := 22) rfl rfl Try.underlying22 Try.underlying5 (by kernel_rfl) (by kernel_rfl) h0
  clear hA0 hval0 hsz0 hsz
  refine (PAll.prebendlaw13_SnapDecodes.walk Pure.SnapDecodes a0 len0 cap0 z0 W w0 y0).mono fun e W' ⟨he, bel⟩ => ?_
  subst he
  exact ⟨_, rfl, _, _, _, [], _, [], hW', trodAll_mk1 (shut_bool Try.underlying4 _), (trodAll_cons_mk (Below.trod laidOut (by kernel_rfl) (of_decide_eq_true (by kernel_rfl)) k0 bel lt0) trodAll_mk0), rfl, bel.frame _, fun h => by cases h⟩
theorem over : Rows.snapDecodesRow.holds Try.pinned (OpenSpec.ofChange Rows.snapDecodesSpec) :=
  OpenClaim.holds_of_wide 13 Try.f13 rfl rfl rfl rfl rfl rfl rfl ⟨rfl, rfl, rfl, rfl, rfl⟩ rfl rfl rfl rfl rfl (by kernel_rfl) Try.func13 (by kernel_rfl)
    (of_decide_eq_true (by kernel_rfl)) (by unfold Func.isWrapper; first | (rw [if_pos (by decide +kernel)]; kernel_rfl) | (rw [if_neg (by decide +kernel)]; exact ⟨rfl, rfl⟩))
    (fun os started H enc _ => lifted os started H enc)
theorem proved : Rows.SnapDecodesSaid := over
#print axioms proved
end Go.Proofs.Ytjmkpcnekghmhaa.snapDecodes
namespace Go.Proofs.Ytjmkpcnekghmhaa
/-- The row, under a short name, for the claim. -/
theorem snapDecodes_holds : Rows.SnapDecodesSaid := snapDecodes.proved
end Go.Proofs.Ytjmkpcnekghmhaa
end
