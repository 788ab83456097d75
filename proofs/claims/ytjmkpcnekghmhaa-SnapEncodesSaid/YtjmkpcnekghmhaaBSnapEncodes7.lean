/- Any state's bytes are what the document says: for every state that a call may be handed; no conditions. -/
import Derived.Test.YtjmkpcnekghmhaaBSnapEncodes6
import Derived.Deep.Slices
import Derived.Deep.Fields
import Derived.ChangeSame
import Derived.ChangeArms
import Derived.OpenShut
import Derived.Test.YtjmkpcnekghmhaaRows
import Derived.ProofKit
import Derived.ShutString
import Derived.ChangeOld
import Derived.Carry
section
set_option linter.unusedVariables false
set_option linter.unusedSimpArgs false
namespace Go.Proofs.Ytjmkpcnekghmhaa.Pure
open Go Go.RowKit Go.Proofs.Ytjmkpcnekghmhaa.PAll Go.Proofs.YtjmkpcnekghmhaaW.PrintWords Go.Proofs.YtjmkpcnekghmhaaW.PrintLast

def beN : Nat → Int → List Int
  | 0, _ => []
  | d + 1, v => (v / 2 ^ (8 * d) % 256) :: beN d v
theorem beN_len (v : Int) : ∀ d, (beN d v).length = d
  | 0 => rfl
  | d + 1 => by simp [beN, beN_len v d]
def flat8 (l : List Int) : List Int := (l.map (beN 8)).flatten
theorem flat8_len (l : List Int) : (flat8 l).length = 8 * l.length := by
  induction l with
  | nil => rfl
  | cons x l ih => simp only [flat8, List.map_cons, List.flatten_cons, List.length_append, beN_len, List.length_cons] at ih ⊢; omega
theorem flat8_cons (x : Int) (l : List Int) : flat8 (x :: l) = beN 8 x ++ flat8 l := rfl
def wd (s : ByteArray) : List Int := beN 2 (s.size : Int) ++ bytesOf s
theorem wd_len (s : ByteArray) : (wd s).length = 2 + s.size := by simp [wd, beN_len, bytesOf_length]
def W64 (v : Int) : Prop := -9223372036854775808 ≤ v ∧ v ≤ 9223372036854775807
def Byt (l : List Int) : Prop := ∀ x ∈ l, 0 ≤ x ∧ x ≤ 255
theorem Byt.drop {l : List Int} (h : Byt l) (n : Nat) : Byt (l.drop n) := fun x hx => h x (List.mem_of_mem_drop hx)
theorem Byt.take {l : List Int} (h : Byt l) (n : Nat) : Byt (l.take n) := fun x hx => h x (List.mem_of_mem_take hx)
structure Codec {α : Type} (one : RS → α × RS) (enc : α → List Int) (ok : α → Prop) : Prop where
  fwd : ∀ x r b, ok x → one ((enc x ++ r, false), b) = (x, ((r, false), b))
  good : ∀ s, (one s).2.1.2 = false → (one s).2.2 = false → s.1.2 = false ∧ s.2 = false
  inv : ∀ s, Byt s.1.1 → (one s).2.1.2 = false → (one s).2.2 = false → s.1.1 = enc (one s).1 ++ (one s).2.1.1 ∧ ok (one s).1 ∧ Byt (one s).2.1.1
def encs {α : Type} (enc : α → List Int) (L : List α) : List Int := (L.map enc).flatten
theorem encs_cons {α : Type} (enc : α → List Int) (x : α) (L : List α) : encs enc (x :: L) = enc x ++ encs enc L := rfl
section
variable {α : Type} {one : RS → α × RS} {enc : α → List Int} {ok : α → Prop}
end
def eFund (x : S93) : List Int := wd x.f0 ++ flat8 [x.f1, x.f2]
def eAlloc (x : S95) : List Int := flat8 [x.f0, x.f1, x.f2, x.f3, x.f4, x.f5]
def eRate (x : S97) : List Int := flat8 [x.f0, x.f1, x.f2]
def eDraw (x : S102) : List Int := flat8 [x.f0, x.f1]
def eJob (x : S100) : List Int := flat8 [x.f0, x.f1, x.f2, x.f3, x.f4, x.f5, x.f6, x.f7, x.f8, x.f9, x.f10] ++ (beN 8 (x.f11.length : Int) ++ encs eDraw x.f11)
def oFund (x : S93) : Prop := x.f0.size ≤ 16 ∧ W64 x.f1 ∧ W64 x.f2
def oAlloc (x : S95) : Prop := W64 x.f0 ∧ W64 x.f1 ∧ W64 x.f2 ∧ W64 x.f3 ∧ W64 x.f4 ∧ W64 x.f5
def oRate (x : S97) : Prop := W64 x.f0 ∧ W64 x.f1 ∧ W64 x.f2
def oDraw (x : S102) : Prop := W64 x.f0 ∧ W64 x.f1
def oJob (x : S100) : Prop := (W64 x.f0 ∧ W64 x.f1 ∧ W64 x.f2 ∧ W64 x.f3 ∧ W64 x.f4 ∧ W64 x.f5 ∧ W64 x.f6 ∧ W64 x.f7 ∧ W64 x.f8 ∧ W64 x.f9 ∧ W64 x.f10) ∧ ((x.f11.length : Int) ≤ 16 ∧ ∀ d ∈ x.f11, oDraw d)
def oKey (x : ByteArray) : Prop := x.size ≤ 16
theorem put_in (v : Int) (L : List Int) (n10 nL : Int) : ∀ (d k : Nat) (x0 : List Int), d ≤ 8 → x0.length + d < 1000000 → snap_put.l1 (k + d + 1) x0 v ((d : Int) - 1) L nL n10 = snap_put.l0 k (x0 ++ beN d v) L nL (wrap64 (n10 + 1))
  | 0, k, x0, _, _ => by
    rw [snap_put.l1.eq_2, if_neg (by simp)]; simp [beN]
  | d + 1, k, x0, h, hl => by
    have e1 : wrap64 (8 * (((d + 1 : Nat) : Int) - 1)) = ((8 * d : Nat) : Int) := by unfold wrap64; omega
    have e2 : wrap64 ((((d + 1 : Nat) : Int) - 1) - 1) = (d : Int) - 1 := by unfold wrap64; omega
    have e3 : shr .i64 v ((8 * d : Nat) : Int) = v / 2 ^ (8 * d) := by
      have := shr_small (rfl : shr .i64 v ((8 * d : Nat) : Int) = shr .i64 v ((8 * d : Nat) : Int)) (by show ((8 * d : Nat) : Int) ≤ 64; omega)
      rw [Int.toNat_natCast] at this
      exact this.symm
    rw [show k + (d + 1) + 1 = (k + d + 1) + 1 by omega, snap_put.l1.eq_2, if_pos (by omega), e1, e2, if_pos (by omega), if_pos (by omega), e3, put_in v L n10 nL d k _ (by omega) (by simp; omega)]
    simp [beN]
theorem put_out (L : List Int) (hL : L.length < 10000) : ∀ (n j k : Nat) (x0 : List Int), j + n = L.length → x0.length + 8 * n < 900000 → snap_put.l0 (k + 10 * n + 1) x0 L (L.length : Int) (j : Int) = some (x0 ++ flat8 (L.drop j))
  | 0, j, k, x0, h, _ => by
    rw [Nat.mul_zero, Nat.add_zero, snap_put.l0.eq_2, if_neg (by omega), List.drop_eq_nil_of_le (by omega)]; simp [flat8]
  | n + 1, j, k, x0, h, hl => by
    have hlt : j < L.length := by omega
    have hr : rd L (j : Int) = L[j] := by simp [rd, List.getD_eq_getElem?_getD, hlt]
    have e : wrap64 ((j : Int) + 1) = ((j + 1 : Nat) : Int) := by unfold wrap64; omega
    rw [show k + 10 * (n + 1) + 1 = ((k + 10 * n + 1) + 8 + 1) + 1 by omega, snap_put.l0.eq_2, if_pos (by omega), if_pos (by omega), if_pos (by omega)]
    have := put_in (rd L (j : Int)) L (j : Int) (L.length : Int) 8 (k + 10 * n + 1) x0 (by omega) (by omega)
    rw [show (7 : Int) = ((8 : Nat) : Int) - 1 by omega, this, e, put_out L hL n (j + 1) k _ (by omega) (by rw [List.length_append, beN_len]; omega), hr, List.drop_eq_getElem_cons hlt, flat8_cons, List.append_assoc]
theorem put_f (K : Nat) (x0 L : List Int) (hL : L.length ≤ 12) (hx : x0.length < 100000) (hK : 130 ≤ K) : snap_put.f K x0 L = some (x0 ++ flat8 L) := by
  obtain ⟨k, rfl⟩ : ∃ k, K = k + 10 * L.length + 1 := ⟨K - 10 * L.length - 1, by omega⟩
  exact put_out L (by omega) L.length 0 k x0 (by omega) (by omega)
theorem sword_f (l : List Int) (s : ByteArray) (hl : l.length < 1000000) (hs : s.size ≤ 16) : snap_word.f l s = some (l ++ (beN 2 (s.size : Int) ++ bytesOf s)) := by
  unfold snap_word.f
  rw [if_pos ⟨by omega, by omega⟩]
  have : beN 2 (s.size : Int) = [0, (s.size : Int) % 256] := by
    show [(s.size : Int) / 2 ^ (8 * 1) % 256, (s.size : Int) / 2 ^ (8 * 0) % 256] = _
    rw [show (s.size : Int) / 2 ^ (8 * 1) % 256 = 0 by show (s.size : Int) / 256 % 256 = 0; omega, show (s.size : Int) / 2 ^ (8 * 0) % 256 = (s.size : Int) % 256 by show (s.size : Int) / 1 % 256 = _; omega]
  rw [this]; simp

def Lim (F : List S93) (A : List S95) (R : List S97) (J : List S100) (Ks : List ByteArray) : Prop := (F.length ≤ 8 ∧ A.length ≤ 16 ∧ R.length ≤ 16 ∧ J.length ≤ 16 ∧ Ks.length ≤ 8) ∧ (∀ x ∈ F, x.f0.size ≤ 16) ∧ (∀ x ∈ J, x.f11.length ≤ 16) ∧ ∀ x ∈ Ks, x.size ≤ 16
def tK (Ks : List ByteArray) : List Int := beN 8 (Ks.length : Int) ++ encs wd Ks
def tJ (J : List S100) (Ks : List ByteArray) : List Int := beN 8 (J.length : Int) ++ (encs eJob J ++ tK Ks)
def tR (R : List S97) (J : List S100) (Ks : List ByteArray) : List Int := beN 8 (R.length : Int) ++ (encs eRate R ++ tJ J Ks)
def tA (A : List S95) (R : List S97) (J : List S100) (Ks : List ByteArray) : List Int := beN 8 (A.length : Int) ++ (encs eAlloc A ++ tR R J Ks)
def encT (a0 a1 a2 : Int) (F : List S93) (A : List S95) (R : List S97) (J : List S100) (Ks : List ByteArray) : List Int := flat8 [a0, a1, a2] ++ (beN 8 (F.length : Int) ++ (encs eFund F ++ tA A R J Ks))
theorem flat8_one (v : Int) : flat8 [v] = beN 8 v := by simp [flat8]
theorem flat8_app (a b : List Int) : flat8 (a ++ b) = flat8 a ++ flat8 b := by simp [flat8]
theorem encs_drop {α : Type} (enc : α → List Int) {L : List α} {j : Nat} (h : j < L.length) : encs enc (L.drop j) = enc L[j] ++ encs enc (L.drop (j + 1)) := by
  rw [List.drop_eq_getElem_cons h, encs_cons]
theorem encs_end {α : Type} (enc : α → List Int) {L : List α} {j : Nat} (h : L.length ≤ j) : encs enc (L.drop j) = [] := by
  rw [List.drop_eq_nil_of_le h]; rfl
theorem up1 (j : Nat) (h : j < 1000000) : wrap64 ((j : Int) + 1) = ((j + 1 : Nat) : Int) := by unfold wrap64; omega
theorem rd_at {α : Type} (z : α) (L : List α) (j : Nat) (h : j < L.length) : L.getD ((j : Nat) : Int).toNat z = L[j] := by
  rw [Int.toNat_natCast]; simp [List.getD_eq_getElem?_getD, h]
theorem se_l5 (L : List ByteArray) (hL : L.length ≤ 8) (ho : ∀ x ∈ L, x.size ≤ 16) : ∀ (n j K : Nat) (x4 : List Int), j + n = L.length → x4.length + 18 * n < 90000 → n + 200 ≤ K → snap_Encode.l5 K x4 L (L.length : Int) (j : Int) = some (x4 ++ encs wd (L.drop j), 0)
  | 0, j, K, x4, h, _, hK => by
    obtain ⟨k, rfl⟩ : ∃ k, K = k + 1 := ⟨K - 1, by omega⟩
    rw [snap_Encode.l5.eq_2, if_neg (by omega), encs_end wd (by omega)]
    simp [slices_Clip_byte.f]
  | n + 1, j, K, x4, h, hl, hK => by
    obtain ⟨k, rfl⟩ : ∃ k, K = k + 1 := ⟨K - 1, by omega⟩
    have hlt : j < L.length := by omega
    have hr : rdOf ByteArray.empty L (j : Int) = L[j] := rd_at _ L j hlt
    have hs := ho L[j] (List.getElem_mem hlt)
    have hw : (wd L[j]).length = 2 + L[j].size := wd_len _
    rw [snap_Encode.l5.eq_2, if_pos (by omega), if_pos (by omega), if_pos (by omega), hr, sword_f x4 _ (by omega) hs, Option.bind_some, up1 j (by omega)]
    rw [show (x4 ++ (beN 2 (L[j].size : Int) ++ bytesOf L[j])) = x4 ++ wd L[j] from rfl, se_l5 L hL ho n (j + 1) k _ (by omega) (by rw [List.length_append, hw]; omega) (by omega), encs_drop wd hlt, List.append_assoc]
section
variable (a0 a1 a2 : Int) (F : List S93) (A : List S95) (R : List S97) (J : List S100) (Ks : List ByteArray)
theorem se_l4 (D : List S102) (n jj : Nat) (nJ : Int) (rest : List Int) (hD : D.length ≤ 16) (next : ∀ (K : Nat) (x : List Int), 20 * n + 500 ≤ K → x.length + 400 * n < 40000 → snap_Encode.l3 K x J nJ (wrap64 ((jj : Int) + 1)) a0 a1 a2 F A R J Ks = some (x ++ rest, 0)) : ∀ (m i K : Nat) (x4 : List Int), i + m = D.length → x4.length + 16 * m + 400 * n < 40000 → m + 1 + 20 * n + 500 ≤ K → snap_Encode.l4 K x4 J nJ (jj : Int) D (D.length : Int) (i : Int) a0 a1 a2 F A R J Ks = some (x4 ++ (encs eDraw (D.drop i) ++ rest), 0)
  | 0, i, K, x4, h, hl, hK => by
    obtain ⟨k, rfl⟩ : ∃ k, K = k + 1 := ⟨K - 1, by omega⟩
    rw [snap_Encode.l4.eq_2, if_neg (by omega), encs_end eDraw (by omega), next k x4 (by omega) (by omega)]
    rfl
  | m + 1, i, K, x4, h, hl, hK => by
    obtain ⟨k, rfl⟩ : ∃ k, K = k + 1 := ⟨K - 1, by omega⟩
    have hlt : i < D.length := by omega
    have hr : rd_T102 D (i : Int) = D[i] := rd_at _ D i hlt
    have hf : (flat8 [D[i].f0, D[i].f1]).length = 16 := by rw [flat8_len]; rfl
    rw [snap_Encode.l4.eq_2, if_pos (by omega), if_pos (by omega), if_pos (by omega), hr, put_f k x4 _ (by simp) (by omega) (by omega), Option.bind_some, up1 i (by omega),
      se_l4 D n jj nJ rest hD next m (i + 1) k _ (by omega) (by rw [List.length_append, hf]; omega) (by omega), encs_drop eDraw hlt]
    simp only [eDraw, List.append_assoc]
theorem se_l3 (hl : Lim F A R J Ks) : ∀ (n j K : Nat) (x4 : List Int), j + n = J.length → x4.length + 400 * n < 40000 → 20 * n + 500 ≤ K → snap_Encode.l3 K x4 J (J.length : Int) (j : Int) a0 a1 a2 F A R J Ks = some (x4 ++ (encs eJob (J.drop j) ++ tK Ks), 0)
  | 0, j, K, x4, h, hx, hK => by
    obtain ⟨k, rfl⟩ : ∃ k, K = k + 1 := ⟨K - 1, by omega⟩
    have hf : (flat8 [(Ks.length : Int)]).length = 8 := by rw [flat8_len]; rfl
    have h5 := se_l5 Ks hl.1.2.2.2.2 hl.2.2.2 Ks.length 0 k (x4 ++ flat8 [(Ks.length : Int)]) (by omega) (by have := hl.1; rw [List.length_append, hf]; omega) (by have := hl.1; omega)
    rw [show ((0 : Nat) : Int) = 0 from rfl] at h5
    rw [snap_Encode.l3.eq_2, if_neg (by omega), encs_end eJob (by omega), put_f k x4 _ (by simp) (by omega) (by omega), Option.bind_some, h5, List.drop_zero, flat8_one]
    simp [tK]
  | n + 1, j, K, x4, h, hx, hK => by
    obtain ⟨k, rfl⟩ : ∃ k, K = k + 1 := ⟨K - 1, by omega⟩
    have hlt : j < J.length := by omega
    have hr : rd_T100 J (j : Int) = J[j] := rd_at _ J j hlt
    have hD : J[j].f11.length ≤ 16 := hl.2.2.1 _ (List.getElem_mem hlt)
    have hJ := hl.1.2.2.2.1
    have hf : (flat8 [J[j].f0, J[j].f1, J[j].f2, J[j].f3, J[j].f4, J[j].f5, J[j].f6, J[j].f7, J[j].f8, J[j].f9, J[j].f10, (J[j].f11.length : Int)]).length = 96 := by rw [flat8_len]; rfl
    have next : ∀ (K : Nat) (x : List Int), 20 * n + 500 ≤ K → x.length + 400 * n < 40000 → snap_Encode.l3 K x J (J.length : Int) (wrap64 ((j : Int) + 1)) a0 a1 a2 F A R J Ks = some (x ++ (encs eJob (J.drop (j + 1)) ++ tK Ks), 0) := fun K x hK hx => by
      rw [up1 j (by omega)]; exact se_l3 hl n (j + 1) K x (by omega) hx hK
    have h4 := se_l4 a0 a1 a2 F A R J Ks J[j].f11 n j (J.length : Int) _ hD next J[j].f11.length 0 k (x4 ++ flat8 [J[j].f0, J[j].f1, J[j].f2, J[j].f3, J[j].f4, J[j].f5, J[j].f6, J[j].f7, J[j].f8, J[j].f9, J[j].f10, (J[j].f11.length : Int)]) (by omega) (by rw [List.length_append, hf]; omega) (by omega)
    rw [show ((0 : Nat) : Int) = 0 from rfl] at h4
    rw [snap_Encode.l3.eq_2, if_pos (by omega), if_pos (by omega), if_pos (by omega), hr, put_f k x4 _ (by simp) (by omega) (by omega), Option.bind_some, h4, List.drop_zero, encs_drop eJob hlt]
    have e : flat8 [J[j].f0, J[j].f1, J[j].f2, J[j].f3, J[j].f4, J[j].f5, J[j].f6, J[j].f7, J[j].f8, J[j].f9, J[j].f10, (J[j].f11.length : Int)] = flat8 [J[j].f0, J[j].f1, J[j].f2, J[j].f3, J[j].f4, J[j].f5, J[j].f6, J[j].f7, J[j].f8, J[j].f9, J[j].f10] ++ beN 8 (J[j].f11.length : Int) := by
      rw [← flat8_one, ← flat8_app]; rfl
    rw [e]
    simp only [eJob, List.append_assoc]
theorem se_l2 (hl : Lim F A R J Ks) : ∀ (n j K : Nat) (x4 : List Int), j + n = R.length → x4.length + 24 * n < 30000 → n + 900 ≤ K → snap_Encode.l2 K x4 R (R.length : Int) (j : Int) a0 a1 a2 F A R J Ks = some (x4 ++ (encs eRate (R.drop j) ++ tJ J Ks), 0)
  | 0, j, K, x4, h, hx, hK => by
    obtain ⟨k, rfl⟩ : ∃ k, K = k + 1 := ⟨K - 1, by omega⟩
    have hf : (flat8 [(J.length : Int)]).length = 8 := by rw [flat8_len]; rfl
    have h5 := se_l3 a0 a1 a2 F A R J Ks hl J.length 0 k (x4 ++ flat8 [(J.length : Int)]) (by omega) (by have := hl.1; rw [List.length_append, hf]; omega) (by have := hl.1; omega)
    rw [show ((0 : Nat) : Int) = 0 from rfl] at h5
    rw [snap_Encode.l2.eq_2, if_neg (by omega), encs_end eRate (by omega), put_f k x4 _ (by simp) (by omega) (by omega), Option.bind_some, h5, List.drop_zero, flat8_one]
    simp [tJ]
  | n + 1, j, K, x4, h, hx, hK => by
    obtain ⟨k, rfl⟩ : ∃ k, K = k + 1 := ⟨K - 1, by omega⟩
    have hlt : j < R.length := by omega
    have hr : rd_T97 R (j : Int) = R[j] := rd_at _ R j hlt
    have hR := hl.1.2.2.1
    have hf : (flat8 [R[j].f0, R[j].f1, R[j].f2]).length = 24 := by rw [flat8_len]; rfl
    rw [snap_Encode.l2.eq_2, if_pos (by omega), if_pos (by omega), if_pos (by omega), hr, put_f k x4 _ (by simp) (by omega) (by omega), Option.bind_some, up1 j (by omega),
      se_l2 hl n (j + 1) k _ (by omega) (by rw [List.length_append, hf]; omega) (by omega), encs_drop eRate hlt]
    simp only [eRate, List.append_assoc]
theorem se_l1 (hl : Lim F A R J Ks) : ∀ (n j K : Nat) (x4 : List Int), j + n = A.length → x4.length + 48 * n < 20000 → n + 1000 ≤ K → snap_Encode.l1 K x4 A (A.length : Int) (j : Int) a0 a1 a2 F A R J Ks = some (x4 ++ (encs eAlloc (A.drop j) ++ tR R J Ks), 0)
  | 0, j, K, x4, h, hx, hK => by
    obtain ⟨k, rfl⟩ : ∃ k, K = k + 1 := ⟨K - 1, by omega⟩
    have hf : (flat8 [(R.length : Int)]).length = 8 := by rw [flat8_len]; rfl
    have h5 := se_l2 a0 a1 a2 F A R J Ks hl R.length 0 k (x4 ++ flat8 [(R.length : Int)]) (by omega) (by have := hl.1; rw [List.length_append, hf]; omega) (by have := hl.1; omega)
    rw [show ((0 : Nat) : Int) = 0 from rfl] at h5
    rw [snap_Encode.l1.eq_2, if_neg (by omega), encs_end eAlloc (by omega), put_f k x4 _ (by simp) (by omega) (by omega), Option.bind_some, h5, List.drop_zero, flat8_one]
    simp [tR]
  | n + 1, j, K, x4, h, hx, hK => by
    obtain ⟨k, rfl⟩ : ∃ k, K = k + 1 := ⟨K - 1, by omega⟩
    have hlt : j < A.length := by omega
    have hr : rd_T95 A (j : Int) = A[j] := rd_at _ A j hlt
    have hA := hl.1.2.1
    have hf : (flat8 [A[j].f0, A[j].f1, A[j].f2, A[j].f3, A[j].f4, A[j].f5]).length = 48 := by rw [flat8_len]; rfl
    rw [snap_Encode.l1.eq_2, if_pos (by omega), if_pos (by omega), if_pos (by omega), hr, put_f k x4 _ (by simp) (by omega) (by omega), Option.bind_some, up1 j (by omega),
      se_l1 hl n (j + 1) k _ (by omega) (by rw [List.length_append, hf]; omega) (by omega), encs_drop eAlloc hlt]
    simp only [eAlloc, List.append_assoc]
theorem se_l0 (hl : Lim F A R J Ks) : ∀ (n j K : Nat) (x4 : List Int), j + n = F.length → x4.length + 34 * n < 10000 → n + 1100 ≤ K → snap_Encode.l0 K x4 F (F.length : Int) (j : Int) a0 a1 a2 F A R J Ks = some (x4 ++ (encs eFund (F.drop j) ++ tA A R J Ks), 0)
  | 0, j, K, x4, h, hx, hK => by
    obtain ⟨k, rfl⟩ : ∃ k, K = k + 1 := ⟨K - 1, by omega⟩
    have hf : (flat8 [(A.length : Int)]).length = 8 := by rw [flat8_len]; rfl
    have h5 := se_l1 a0 a1 a2 F A R J Ks hl A.length 0 k (x4 ++ flat8 [(A.length : Int)]) (by omega) (by have := hl.1; rw [List.length_append, hf]; omega) (by have := hl.1; omega)
    rw [show ((0 : Nat) : Int) = 0 from rfl] at h5
    rw [snap_Encode.l0.eq_2, if_neg (by omega), encs_end eFund (by omega), put_f k x4 _ (by simp) (by omega) (by omega), Option.bind_some, h5, List.drop_zero, flat8_one]
    simp [tA]
  | n + 1, j, K, x4, h, hx, hK => by
    obtain ⟨k, rfl⟩ : ∃ k, K = k + 1 := ⟨K - 1, by omega⟩
    have hlt : j < F.length := by omega
    have hr : rd_T93 F (j : Int) = F[j] := rd_at _ F j hlt
    have hF := hl.1.1
    have hs := hl.2.1 _ (List.getElem_mem hlt)
    have hf : (flat8 [F[j].f1, F[j].f2]).length = 16 := by rw [flat8_len]; rfl
    have hw : (wd F[j].f0).length = 2 + F[j].f0.size := wd_len _
    rw [snap_Encode.l0.eq_2, if_pos (by omega), if_pos (by omega), if_pos (by omega), hr, sword_f x4 _ (by omega) hs, Option.bind_some]
    change (snap_put.f k (x4 ++ wd F[j].f0) [F[j].f1, F[j].f2]).bind _ = _
    rw [put_f k _ _ (by simp) (by rw [List.length_append, hw]; omega) (by omega), Option.bind_some, up1 j (by omega),
      se_l0 hl n (j + 1) k _ (by omega) (by rw [List.length_append, List.length_append, hf, hw]; omega) (by omega), encs_drop eFund hlt]
    simp only [eFund, List.append_assoc]
end
theorem ix_Fund__snap_fits_1 : ∀ (L : List S93) (n j K : Nat), L.length ≤ 16 → j + n = L.length → n + 2 ≤ K → ∃ r, slices_IndexFunc_Fund__snap_fits_1.l0 K L (L.length : Int) (j : Int) = some r ∧ (r ≥ 0 ↔ ∃ x ∈ L.drop j, ¬ x.f0.size ≤ 16)
  | L, 0, j, K, hL, h, hK => by
    obtain ⟨k, rfl⟩ : ∃ k, K = k + 1 := ⟨K - 1, by omega⟩
    refine ⟨-1, by rw [slices_IndexFunc_Fund__snap_fits_1.l0.eq_2, if_neg (by omega)], ?_⟩
    rw [List.drop_eq_nil_of_le (by omega)]; simp
  | L, n + 1, j, K, hL, h, hK => by
    obtain ⟨k, rfl⟩ : ∃ k, K = k + 1 := ⟨K - 1, by omega⟩
    have hlt : j < L.length := by omega
    have hr : rd_T93 L (j : Int) = L[j] := rd_at _ L j hlt
    rw [slices_IndexFunc_Fund__snap_fits_1.l0.eq_2, if_pos (by omega), if_pos (by omega), if_pos (by omega), hr]
    unfold snap_fits_1.f
    rw [Option.bind_some]
    by_cases hp : ((L[j].f0.size : Int) : Int) > 16
    · refine ⟨(j : Int), by rw [if_pos (decide_eq_true hp)], ?_⟩
      rw [List.drop_eq_getElem_cons hlt]
      exact ⟨fun _ => ⟨L[j], List.mem_cons_self .., by omega⟩, fun _ => by omega⟩
    · obtain ⟨r, hr2, hi⟩ := ix_Fund__snap_fits_1 L n (j + 1) k hL (by omega) (by omega)
      refine ⟨r, by rw [decide_eq_false hp, if_neg (by simp), up1 j (by omega)]; exact hr2, ?_⟩
      rw [hi, List.drop_eq_getElem_cons hlt]
      constructor
      · rintro ⟨x, hx, hy⟩; exact ⟨x, List.mem_cons_of_mem _ hx, hy⟩
      · rintro ⟨x, hx, hy⟩
        rcases List.mem_cons.1 hx with rfl | hx
        · exact absurd (show _ ≤ 16 by omega) hy
        · exact ⟨x, hx, hy⟩
theorem ct_Fund__snap_fits_1 (L : List S93) (hL : L.length ≤ 16) (K : Nat) (hK : 20 ≤ K) : ∃ b, slices_ContainsFunc_Fund__snap_fits_1.f K L = some b ∧ (b = false ↔ ∀ x ∈ L, x.f0.size ≤ 16) := by
  obtain ⟨r, hr, hi⟩ := ix_Fund__snap_fits_1 L L.length 0 K hL (by omega) (by omega)
  rw [show ((0 : Nat) : Int) = 0 from rfl] at hr
  refine ⟨decide (r ≥ 0), by unfold slices_ContainsFunc_Fund__snap_fits_1.f slices_IndexFunc_Fund__snap_fits_1.f; rw [hr, Option.bind_some], ?_⟩
  rw [List.drop_zero] at hi
  rw [decide_eq_false_iff_not, hi]
  constructor
  · intro h x hx
    exact Decidable.byContradiction fun c => h ⟨x, hx, c⟩
  · rintro h ⟨x, hx, hy⟩; exact hy (h x hx)
theorem ix_Job__snap_fits_2 : ∀ (L : List S100) (n j K : Nat), L.length ≤ 16 → j + n = L.length → n + 2 ≤ K → ∃ r, slices_IndexFunc_Job__snap_fits_2.l0 K L (L.length : Int) (j : Int) = some r ∧ (r ≥ 0 ↔ ∃ x ∈ L.drop j, ¬ x.f11.length ≤ 16)
  | L, 0, j, K, hL, h, hK => by
    obtain ⟨k, rfl⟩ : ∃ k, K = k + 1 := ⟨K - 1, by omega⟩
    refine ⟨-1, by rw [slices_IndexFunc_Job__snap_fits_2.l0.eq_2, if_neg (by omega)], ?_⟩
    rw [List.drop_eq_nil_of_le (by omega)]; simp
  | L, n + 1, j, K, hL, h, hK => by
    obtain ⟨k, rfl⟩ : ∃ k, K = k + 1 := ⟨K - 1, by omega⟩
    have hlt : j < L.length := by omega
    have hr : rd_T100 L (j : Int) = L[j] := rd_at _ L j hlt
    rw [slices_IndexFunc_Job__snap_fits_2.l0.eq_2, if_pos (by omega), if_pos (by omega), if_pos (by omega), hr]
    unfold snap_fits_2.f
    rw [Option.bind_some]
    by_cases hp : ((L[j].f11.length : Int) : Int) > 16
    · refine ⟨(j : Int), by rw [if_pos (decide_eq_true hp)], ?_⟩
      rw [List.drop_eq_getElem_cons hlt]
      exact ⟨fun _ => ⟨L[j], List.mem_cons_self .., by omega⟩, fun _ => by omega⟩
    · obtain ⟨r, hr2, hi⟩ := ix_Job__snap_fits_2 L n (j + 1) k hL (by omega) (by omega)
      refine ⟨r, by rw [decide_eq_false hp, if_neg (by simp), up1 j (by omega)]; exact hr2, ?_⟩
      rw [hi, List.drop_eq_getElem_cons hlt]
      constructor
      · rintro ⟨x, hx, hy⟩; exact ⟨x, List.mem_cons_of_mem _ hx, hy⟩
      · rintro ⟨x, hx, hy⟩
        rcases List.mem_cons.1 hx with rfl | hx
        · exact absurd (show _ ≤ 16 by omega) hy
        · exact ⟨x, hx, hy⟩
theorem ct_Job__snap_fits_2 (L : List S100) (hL : L.length ≤ 16) (K : Nat) (hK : 20 ≤ K) : ∃ b, slices_ContainsFunc_Job__snap_fits_2.f K L = some b ∧ (b = false ↔ ∀ x ∈ L, x.f11.length ≤ 16) := by
  obtain ⟨r, hr, hi⟩ := ix_Job__snap_fits_2 L L.length 0 K hL (by omega) (by omega)
  rw [show ((0 : Nat) : Int) = 0 from rfl] at hr
  refine ⟨decide (r ≥ 0), by unfold slices_ContainsFunc_Job__snap_fits_2.f slices_IndexFunc_Job__snap_fits_2.f; rw [hr, Option.bind_some], ?_⟩
  rw [List.drop_zero] at hi
  rw [decide_eq_false_iff_not, hi]
  constructor
  · intro h x hx
    exact Decidable.byContradiction fun c => h ⟨x, hx, c⟩
  · rintro h ⟨x, hx, hy⟩; exact hy (h x hx)
theorem ix_string__snap_fits_3 : ∀ (L : List ByteArray) (n j K : Nat), L.length ≤ 16 → j + n = L.length → n + 2 ≤ K → ∃ r, slices_IndexFunc_string__snap_fits_3.l0 K L (L.length : Int) (j : Int) = some r ∧ (r ≥ 0 ↔ ∃ x ∈ L.drop j, ¬ x.size ≤ 16)
  | L, 0, j, K, hL, h, hK => by
    obtain ⟨k, rfl⟩ : ∃ k, K = k + 1 := ⟨K - 1, by omega⟩
    refine ⟨-1, by rw [slices_IndexFunc_string__snap_fits_3.l0.eq_2, if_neg (by omega)], ?_⟩
    rw [List.drop_eq_nil_of_le (by omega)]; simp
  | L, n + 1, j, K, hL, h, hK => by
    obtain ⟨k, rfl⟩ : ∃ k, K = k + 1 := ⟨K - 1, by omega⟩
    have hlt : j < L.length := by omega
    have hr : rdOf ByteArray.empty L (j : Int) = L[j] := rd_at _ L j hlt
    rw [slices_IndexFunc_string__snap_fits_3.l0.eq_2, if_pos (by omega), if_pos (by omega), if_pos (by omega), hr]
    unfold snap_fits_3.f
    rw [Option.bind_some]
    by_cases hp : ((L[j].size : Int) : Int) > 16
    · refine ⟨(j : Int), by rw [if_pos (decide_eq_true hp)], ?_⟩
      rw [List.drop_eq_getElem_cons hlt]
      exact ⟨fun _ => ⟨L[j], List.mem_cons_self .., by omega⟩, fun _ => by omega⟩
    · obtain ⟨r, hr2, hi⟩ := ix_string__snap_fits_3 L n (j + 1) k hL (by omega) (by omega)
      refine ⟨r, by rw [decide_eq_false hp, if_neg (by simp), up1 j (by omega)]; exact hr2, ?_⟩
      rw [hi, List.drop_eq_getElem_cons hlt]
      constructor
      · rintro ⟨x, hx, hy⟩; exact ⟨x, List.mem_cons_of_mem _ hx, hy⟩
      · rintro ⟨x, hx, hy⟩
        rcases List.mem_cons.1 hx with rfl | hx
        · exact absurd (show _ ≤ 16 by omega) hy
        · exact ⟨x, hx, hy⟩
theorem ct_string__snap_fits_3 (L : List ByteArray) (hL : L.length ≤ 16) (K : Nat) (hK : 20 ≤ K) : ∃ b, slices_ContainsFunc_string__snap_fits_3.f K L = some b ∧ (b = false ↔ ∀ x ∈ L, x.size ≤ 16) := by
  obtain ⟨r, hr, hi⟩ := ix_string__snap_fits_3 L L.length 0 K hL (by omega) (by omega)
  rw [show ((0 : Nat) : Int) = 0 from rfl] at hr
  refine ⟨decide (r ≥ 0), by unfold slices_ContainsFunc_string__snap_fits_3.f slices_IndexFunc_string__snap_fits_3.f; rw [hr, Option.bind_some], ?_⟩
  rw [List.drop_zero] at hi
  rw [decide_eq_false_iff_not, hi]
  constructor
  · intro h x hx
    exact Decidable.byContradiction fun c => h ⟨x, hx, c⟩
  · rintro h ⟨x, hx, hy⟩; exact hy (h x hx)
theorem fits_f (K : Nat) (hK : 40 ≤ K) (a0 a1 a2 : Int) (F : List S93) (A : List S95) (R : List S97) (J : List S100) (Ks : List ByteArray) : ∃ b, snap_fits.f K a0 a1 a2 F A R J Ks = some b ∧ (b = true ↔ Lim F A R J Ks) := by
  obtain ⟨k, rfl⟩ : ∃ k, K = k + 1 := ⟨K - 1, by omega⟩
  have hT : snap_fits.j0 (k + 1) true a0 a1 a2 F A R J Ks = some false := by rw [snap_fits.j0.eq_2, if_pos rfl]
  unfold snap_fits.f Lim
  by_cases c1 : (F.length : Int) > 8
  · exact ⟨false, by rw [if_pos c1, hT], by simp; omega⟩
  rw [if_neg c1]
  by_cases c2 : (A.length : Int) > 16
  · exact ⟨false, by rw [if_pos c2, hT], by simp; omega⟩
  rw [if_neg c2]
  by_cases c3 : (R.length : Int) > 16
  · exact ⟨false, by rw [if_pos c3, hT], by simp; omega⟩
  rw [if_neg c3]
  by_cases c4 : (J.length : Int) > 16
  · exact ⟨false, by rw [if_pos c4, hT], by simp; omega⟩
  rw [if_neg c4]
  by_cases c5 : (Ks.length : Int) > 8
  · exact ⟨false, by rw [decide_eq_true c5, hT], by simp; omega⟩
  rw [decide_eq_false c5, snap_fits.j0.eq_2, if_neg (by simp)]
  obtain ⟨b1, e1, i1⟩ := ct_Fund__snap_fits_1 F (by omega) k (by omega)
  obtain ⟨b2, e2, i2⟩ := ct_Job__snap_fits_2 J (by omega) k (by omega)
  obtain ⟨b3, e3, i3⟩ := ct_string__snap_fits_3 Ks (by omega) k (by omega)
  have hlen : F.length ≤ 8 ∧ A.length ≤ 16 ∧ R.length ≤ 16 ∧ J.length ≤ 16 ∧ Ks.length ≤ 8 := by omega
  rw [e1, Option.bind_some]
  cases b1 with
  | true => exact ⟨false, by rw [if_pos rfl], ⟨fun h => by simp at h, fun h => by have := i1.2 h.2.1; simp at this⟩⟩
  | false =>
    rw [if_neg (by simp), e2, Option.bind_some]
    cases b2 with
    | true => exact ⟨false, by rw [if_pos rfl], ⟨fun h => by simp at h, fun h => by have := i2.2 h.2.2.1; simp at this⟩⟩
    | false =>
      rw [if_neg (by simp), e3, Option.bind_some]
      cases b3 with
      | true => exact ⟨false, rfl, ⟨fun h => by simp at h, fun h => by have := i3.2 h.2.2.2; simp at this⟩⟩
      | false => exact ⟨true, rfl, ⟨fun _ => ⟨hlen, i1.1 rfl, i2.1 rfl, i3.1 rfl⟩, fun _ => rfl⟩⟩
theorem senc_ok (K : Nat) (hK : 1300 ≤ K) (a0 a1 a2 : Int) (F : List S93) (A : List S95) (R : List S97) (J : List S100) (Ks : List ByteArray) (h : Lim F A R J Ks) : snap_Encode.f K a0 a1 a2 F A R J Ks = some (encT a0 a1 a2 F A R J Ks, 0) := by
  obtain ⟨b, e, i⟩ := fits_f K (by omega) a0 a1 a2 F A R J Ks
  unfold snap_Encode.f
  rw [e, i.2 h, Option.bind_some, if_pos rfl, put_f K [] _ (by simp) (by simp) (by omega), Option.bind_some]
  have hf : (flat8 [a0, a1, a2, (F.length : Int)]).length = 32 := by rw [flat8_len]; rfl
  have h0 := se_l0 a0 a1 a2 F A R J Ks h F.length 0 K ([] ++ flat8 [a0, a1, a2, (F.length : Int)]) (by omega) (by have := h.1; rw [List.length_append, hf]; simp; omega) (by have := h.1; omega)
  rw [show ((0 : Nat) : Int) = 0 from rfl] at h0
  rw [h0, List.drop_zero, List.nil_append]
  have e4 : flat8 [a0, a1, a2, (F.length : Int)] = flat8 [a0, a1, a2] ++ beN 8 (F.length : Int) := by rw [← flat8_one, ← flat8_app]; rfl
  rw [e4]
  simp only [encT, List.append_assoc]
theorem senc_bad (K : Nat) (hK : 1300 ≤ K) (a0 a1 a2 : Int) (F : List S93) (A : List S95) (R : List S97) (J : List S100) (Ks : List ByteArray) (h : ¬ Lim F A R J Ks) : snap_Encode.f K a0 a1 a2 F A R J Ks = some ([], 3) := by
  obtain ⟨b, e, i⟩ := fits_f K (by omega) a0 a1 a2 F A R J Ks
  unfold snap_Encode.f
  have hb : b = false := by
    cases b with
    | false => rfl
    | true => exact absurd (i.1 rfl) h
  rw [e, hb, Option.bind_some, if_neg (by simp)]

theorem ref_shift (v : Int) (d : Nat) (h : d < 8) : shr .u64 (IntKind.u64.wrap v) (IntKind.u64.wrap (wrap64 (8 * (((d + 1 : Nat) : Int) - 1)))) % 256 = v / 2 ^ (8 * d) % 256 := by
  have e1 : IntKind.u64.wrap (wrap64 (8 * (((d + 1 : Nat) : Int) - 1))) = ((8 * d : Nat) : Int) := by rw [show ∀ z, IntKind.u64.wrap z = z % 18446744073709551616 from fun _ => rfl]; unfold wrap64; omega
  rw [e1, show IntKind.u64.wrap v = v % 18446744073709551616 from rfl]
  show (v % 18446744073709551616) / 2 ^ (min ((8 * d : Nat) : Int).toNat 64) % 256 = _
  rw [Int.toNat_natCast, Nat.min_eq_left (by omega)]
  have hd : d = 0 ∨ d = 1 ∨ d = 2 ∨ d = 3 ∨ d = 4 ∨ d = 5 ∨ d = 6 ∨ d = 7 := by omega
  rcases hd with rfl | rfl | rfl | rfl | rfl | rfl | rfl | rfl <;> simp only [Nat.reduceMul, Int.reducePow] <;> omega
theorem ref_text (l : List Int) (s : ByteArray) (hl : l.length < 1000000) (hs : s.size ≤ 16) : prebendref03_Text.f l s = some (l ++ (beN 2 (s.size : Int) ++ bytesOf s)) := by
  unfold prebendref03_Text.f
  rw [if_pos ⟨by omega, by omega⟩]
  have : beN 2 (s.size : Int) = [(s.size : Int) / 256 % 256, (s.size : Int) % 256] := by
    show [(s.size : Int) / 2 ^ (8 * 1) % 256, (s.size : Int) / 2 ^ (8 * 0) % 256] = _
    rw [show (s.size : Int) / 2 ^ (8 * 1) % 256 = (s.size : Int) / 256 % 256 from rfl, show (s.size : Int) / 2 ^ (8 * 0) % 256 = (s.size : Int) % 256 by show (s.size : Int) / 1 % 256 = _; omega]
  rw [this]; simp
theorem nums_in (L : List Int) (jj : Nat) (hj : jj < L.length) (hL : L.length < 10000) : ∀ (d k : Nat) (x0 : List Int), d ≤ 8 → x0.length + d < 1000000 → prebendref13_nums.l1 (k + d + 1) x0 L (jj : Int) ((d : Int) - 1) = prebendref13_nums.l0 k (x0 ++ beN d L[jj]) L ((jj + 1 : Nat) : Int)
  | 0, k, x0, _, _ => by
    rw [prebendref13_nums.l1.eq_2, if_neg (by simp), up1 jj (by omega)]; simp [beN]
  | d + 1, k, x0, h, hl => by
    have e1 : IntKind.u64.wrap (wrap64 (8 * (((d + 1 : Nat) : Int) - 1))) = ((8 * d : Nat) : Int) := by rw [show ∀ z, IntKind.u64.wrap z = z % 18446744073709551616 from fun _ => rfl]; unfold wrap64; omega
    have e2 : wrap64 ((((d + 1 : Nat) : Int) - 1) - 1) = (d : Int) - 1 := by unfold wrap64; omega
    have hr : rd L (jj : Int) = L[jj] := rd_at _ L jj hj
    rw [show k + (d + 1) + 1 = (k + d + 1) + 1 by omega, prebendref13_nums.l1.eq_2, if_pos (by omega), if_pos (by omega), if_pos (by omega), if_pos (by rw [e1]; omega), if_pos (by omega), hr, ref_shift L[jj] d (by omega), e2, nums_in L jj hj hL d k _ (by omega) (by simp; omega)]
    simp [beN]
theorem nums_out (L : List Int) (hL : L.length < 10000) : ∀ (n j k : Nat) (x0 : List Int), j + n = L.length → x0.length + 8 * n < 900000 → prebendref13_nums.l0 (k + 10 * n + 1) x0 L (j : Int) = some (x0 ++ flat8 (L.drop j))
  | 0, j, k, x0, h, _ => by
    rw [Nat.mul_zero, Nat.add_zero, prebendref13_nums.l0.eq_2, if_neg (by omega), List.drop_eq_nil_of_le (by omega)]; simp [flat8]
  | n + 1, j, k, x0, h, hl => by
    have hlt : j < L.length := by omega
    rw [show k + 10 * (n + 1) + 1 = ((k + 10 * n + 1) + 8 + 1) + 1 by omega, prebendref13_nums.l0.eq_2, if_pos (by omega)]
    have := nums_in L j hlt hL 8 (k + 10 * n + 1) x0 (by omega) (by omega)
    rw [show (7 : Int) = ((8 : Nat) : Int) - 1 by omega, this, nums_out L hL n (j + 1) k _ (by omega) (by rw [List.length_append, beN_len]; omega), List.drop_eq_getElem_cons hlt, flat8_cons, List.append_assoc]
theorem rnums_f (K : Nat) (x0 L : List Int) (hL : L.length ≤ 12) (hx : x0.length < 100000) (hK : 130 ≤ K) : prebendref13_nums.f K x0 L = some (x0 ++ flat8 L) := by
  obtain ⟨k, rfl⟩ : ∃ k, K = k + 10 * L.length + 1 := ⟨K - 10 * L.length - 1, by omega⟩
  exact nums_out L (by omega) L.length 0 k x0 (by omega) (by omega)
section
variable (a0 a1 a2 : Int) (F : List S93) (A : List S95) (R : List S97) (J : List S100) (Ks : List ByteArray)
theorem re_l5 (hL : Ks.length ≤ 8) (ho : ∀ x ∈ Ks, x.size ≤ 16) : ∀ (n j K : Nat) (x4 : List Int), j + n = Ks.length → x4.length + 18 * n < 90000 → n + 200 ≤ K → prebendref13_Encode.l5 K x4 (j : Int) a0 a1 a2 F A R J Ks = some (x4 ++ encs wd (Ks.drop j), 0)
  | 0, j, K, x4, h, _, hK => by
    obtain ⟨k, rfl⟩ : ∃ k, K = k + 1 := ⟨K - 1, by omega⟩
    rw [prebendref13_Encode.l5.eq_2, if_neg (by omega), encs_end wd (by omega)]
    simp
  | n + 1, j, K, x4, h, hl, hK => by
    obtain ⟨k, rfl⟩ : ∃ k, K = k + 1 := ⟨K - 1, by omega⟩
    have hlt : j < Ks.length := by omega
    have hr : rdOf ByteArray.empty Ks (j : Int) = Ks[j] := rd_at _ Ks j hlt
    have hs := ho Ks[j] (List.getElem_mem hlt)
    have hw : (wd Ks[j]).length = 2 + Ks[j].size := wd_len _
    rw [prebendref13_Encode.l5.eq_2, if_pos (by omega), if_pos (by omega), hr, if_neg (by omega), ref_text x4 _ (by omega) hs, Option.bind_some, up1 j (by omega)]
    rw [show (x4 ++ (beN 2 (Ks[j].size : Int) ++ bytesOf Ks[j])) = x4 ++ wd Ks[j] from rfl, re_l5 hL ho n (j + 1) k _ (by omega) (by rw [List.length_append, hw]; omega) (by omega), encs_drop wd hlt, List.append_assoc]
theorem re_l4 (y0 y1 y2 y3 y4 y5 y6 y7 y8 y9 y10 : Int) (D : List S102) (n jj : Nat) (rest : List Int) (hD : D.length ≤ 16) (next : ∀ (K : Nat) (x : List Int), 20 * n + 500 ≤ K → x.length + 400 * n < 40000 → prebendref13_Encode.l3 K x (wrap64 ((jj : Int) + 1)) a0 a1 a2 F A R J Ks = some (x ++ rest, 0)) : ∀ (m i K : Nat) (x4 : List Int), i + m = D.length → x4.length + 16 * m + 400 * n < 40000 → m + 1 + 20 * n + 500 ≤ K → prebendref13_Encode.l4 K x4 (jj : Int) (i : Int) a0 a1 a2 F A R J Ks y0 y1 y2 y3 y4 y5 y6 y7 y8 y9 y10 D = some (x4 ++ (encs eDraw (D.drop i) ++ rest), 0)
  | 0, i, K, x4, h, hl, hK => by
    obtain ⟨k, rfl⟩ : ∃ k, K = k + 1 := ⟨K - 1, by omega⟩
    rw [prebendref13_Encode.l4.eq_2, if_neg (by omega), encs_end eDraw (by omega), next k x4 (by omega) (by omega)]
    rfl
  | m + 1, i, K, x4, h, hl, hK => by
    obtain ⟨k, rfl⟩ : ∃ k, K = k + 1 := ⟨K - 1, by omega⟩
    have hlt : i < D.length := by omega
    have hr : rd_T102 D (i : Int) = D[i] := rd_at _ D i hlt
    have hf : (flat8 [D[i].f0, D[i].f1]).length = 16 := by rw [flat8_len]; rfl
    rw [prebendref13_Encode.l4.eq_2, if_pos (by omega), if_pos (by omega), hr, rnums_f k x4 _ (by simp) (by omega) (by omega), Option.bind_some, up1 i (by omega),
      re_l4 y0 y1 y2 y3 y4 y5 y6 y7 y8 y9 y10 D n jj rest hD next m (i + 1) k _ (by omega) (by rw [List.length_append, hf]; omega) (by omega), encs_drop eDraw hlt]
    simp only [eDraw, List.append_assoc]
theorem re_l3 (hl : Lim F A R J Ks) : ∀ (n j K : Nat) (x4 : List Int), j + n = J.length → x4.length + 400 * n < 40000 → 20 * n + 500 ≤ K → prebendref13_Encode.l3 K x4 (j : Int) a0 a1 a2 F A R J Ks = some (x4 ++ (encs eJob (J.drop j) ++ tK Ks), 0)
  | 0, j, K, x4, h, hx, hK => by
    obtain ⟨k, rfl⟩ : ∃ k, K = k + 1 := ⟨K - 1, by omega⟩
    have hf : (flat8 [(Ks.length : Int)]).length = 8 := by rw [flat8_len]; rfl
    have h5 := re_l5 a0 a1 a2 F A R J Ks hl.1.2.2.2.2 hl.2.2.2 Ks.length 0 k (x4 ++ flat8 [(Ks.length : Int)]) (by omega) (by have := hl.1; rw [List.length_append, hf]; omega) (by have := hl.1; omega)
    rw [show ((0 : Nat) : Int) = 0 from rfl] at h5
    rw [prebendref13_Encode.l3.eq_2, if_neg (by omega), encs_end eJob (by omega), rnums_f k x4 _ (by simp) (by omega) (by omega), Option.bind_some, h5, List.drop_zero, flat8_one]
    simp [tK]
  | n + 1, j, K, x4, h, hx, hK => by
    obtain ⟨k, rfl⟩ : ∃ k, K = k + 1 := ⟨K - 1, by omega⟩
    have hlt : j < J.length := by omega
    have hr : rd_T100 J (j : Int) = J[j] := rd_at _ J j hlt
    have hD : J[j].f11.length ≤ 16 := hl.2.2.1 _ (List.getElem_mem hlt)
    have hJ := hl.1.2.2.2.1
    have hf : (flat8 [J[j].f0, J[j].f1, J[j].f2, J[j].f3, J[j].f4, J[j].f5, J[j].f6, J[j].f7, J[j].f8, J[j].f9, J[j].f10, (J[j].f11.length : Int)]).length = 96 := by rw [flat8_len]; rfl
    have next : ∀ (K : Nat) (x : List Int), 20 * n + 500 ≤ K → x.length + 400 * n < 40000 → prebendref13_Encode.l3 K x (wrap64 ((j : Int) + 1)) a0 a1 a2 F A R J Ks = some (x ++ (encs eJob (J.drop (j + 1)) ++ tK Ks), 0) := fun K x hK hx => by
      rw [up1 j (by omega)]; exact re_l3 hl n (j + 1) K x (by omega) hx hK
    have h4 := re_l4 a0 a1 a2 F A R J Ks J[j].f0 J[j].f1 J[j].f2 J[j].f3 J[j].f4 J[j].f5 J[j].f6 J[j].f7 J[j].f8 J[j].f9 J[j].f10 J[j].f11 n j _ hD next J[j].f11.length 0 k (x4 ++ flat8 [J[j].f0, J[j].f1, J[j].f2, J[j].f3, J[j].f4, J[j].f5, J[j].f6, J[j].f7, J[j].f8, J[j].f9, J[j].f10, (J[j].f11.length : Int)]) (by omega) (by rw [List.length_append, hf]; omega) (by omega)
    rw [show ((0 : Nat) : Int) = 0 from rfl] at h4
    rw [prebendref13_Encode.l3.eq_2, if_pos (by omega), if_pos (by omega), hr, if_neg (by omega), rnums_f k x4 _ (by simp) (by omega) (by omega), Option.bind_some, h4, List.drop_zero, encs_drop eJob hlt]
    have e : flat8 [J[j].f0, J[j].f1, J[j].f2, J[j].f3, J[j].f4, J[j].f5, J[j].f6, J[j].f7, J[j].f8, J[j].f9, J[j].f10, (J[j].f11.length : Int)] = flat8 [J[j].f0, J[j].f1, J[j].f2, J[j].f3, J[j].f4, J[j].f5, J[j].f6, J[j].f7, J[j].f8, J[j].f9, J[j].f10] ++ beN 8 (J[j].f11.length : Int) := by
      rw [← flat8_one, ← flat8_app]; rfl
    rw [e]
    simp only [eJob, List.append_assoc]
theorem re_l2 (hl : Lim F A R J Ks) : ∀ (n j K : Nat) (x4 : List Int), j + n = R.length → x4.length + 24 * n < 30000 → n + 900 ≤ K → prebendref13_Encode.l2 K x4 (j : Int) a0 a1 a2 F A R J Ks = some (x4 ++ (encs eRate (R.drop j) ++ tJ J Ks), 0)
  | 0, j, K, x4, h, hx, hK => by
    obtain ⟨k, rfl⟩ : ∃ k, K = k + 1 := ⟨K - 1, by omega⟩
    have hf : (flat8 [(J.length : Int)]).length = 8 := by rw [flat8_len]; rfl
    have h5 := re_l3 a0 a1 a2 F A R J Ks hl J.length 0 k (x4 ++ flat8 [(J.length : Int)]) (by omega) (by have := hl.1; rw [List.length_append, hf]; omega) (by have := hl.1; omega)
    rw [show ((0 : Nat) : Int) = 0 from rfl] at h5
    rw [prebendref13_Encode.l2.eq_2, if_neg (by omega), encs_end eRate (by omega), rnums_f k x4 _ (by simp) (by omega) (by omega), Option.bind_some, h5, List.drop_zero, flat8_one]
    simp [tJ]
  | n + 1, j, K, x4, h, hx, hK => by
    obtain ⟨k, rfl⟩ : ∃ k, K = k + 1 := ⟨K - 1, by omega⟩
    have hlt : j < R.length := by omega
    have hr : rd_T97 R (j : Int) = R[j] := rd_at _ R j hlt
    have hR := hl.1.2.2.1
    have hf : (flat8 [R[j].f0, R[j].f1, R[j].f2]).length = 24 := by rw [flat8_len]; rfl
    rw [prebendref13_Encode.l2.eq_2, if_pos (by omega), if_pos (by omega), hr, rnums_f k x4 _ (by simp) (by omega) (by omega), Option.bind_some, up1 j (by omega),
      re_l2 hl n (j + 1) k _ (by omega) (by rw [List.length_append, hf]; omega) (by omega), encs_drop eRate hlt]
    simp only [eRate, List.append_assoc]
theorem re_l1 (hl : Lim F A R J Ks) : ∀ (n j K : Nat) (x4 : List Int), j + n = A.length → x4.length + 48 * n < 20000 → n + 1000 ≤ K → prebendref13_Encode.l1 K x4 (j : Int) a0 a1 a2 F A R J Ks = some (x4 ++ (encs eAlloc (A.drop j) ++ tR R J Ks), 0)
  | 0, j, K, x4, h, hx, hK => by
    obtain ⟨k, rfl⟩ : ∃ k, K = k + 1 := ⟨K - 1, by omega⟩
    have hf : (flat8 [(R.length : Int)]).length = 8 := by rw [flat8_len]; rfl
    have h5 := re_l2 a0 a1 a2 F A R J Ks hl R.length 0 k (x4 ++ flat8 [(R.length : Int)]) (by omega) (by have := hl.1; rw [List.length_append, hf]; omega) (by have := hl.1; omega)
    rw [show ((0 : Nat) : Int) = 0 from rfl] at h5
    rw [prebendref13_Encode.l1.eq_2, if_neg (by omega), encs_end eAlloc (by omega), rnums_f k x4 _ (by simp) (by omega) (by omega), Option.bind_some, h5, List.drop_zero, flat8_one]
    simp [tR]
  | n + 1, j, K, x4, h, hx, hK => by
    obtain ⟨k, rfl⟩ : ∃ k, K = k + 1 := ⟨K - 1, by omega⟩
    have hlt : j < A.length := by omega
    have hr : rd_T95 A (j : Int) = A[j] := rd_at _ A j hlt
    have hA := hl.1.2.1
    have hf : (flat8 [A[j].f0, A[j].f1, A[j].f2, A[j].f3, A[j].f4, A[j].f5]).length = 48 := by rw [flat8_len]; rfl
    rw [prebendref13_Encode.l1.eq_2, if_pos (by omega), if_pos (by omega), hr, rnums_f k x4 _ (by simp) (by omega) (by omega), Option.bind_some, up1 j (by omega),
      re_l1 hl n (j + 1) k _ (by omega) (by rw [List.length_append, hf]; omega) (by omega), encs_drop eAlloc hlt]
    simp only [eAlloc, List.append_assoc]
theorem re_l0 (hl : Lim F A R J Ks) : ∀ (n j K : Nat) (x4 : List Int), j + n = F.length → x4.length + 34 * n < 10000 → n + 1100 ≤ K → prebendref13_Encode.l0 K x4 (j : Int) a0 a1 a2 F A R J Ks = some (x4 ++ (encs eFund (F.drop j) ++ tA A R J Ks), 0)
  | 0, j, K, x4, h, hx, hK => by
    obtain ⟨k, rfl⟩ : ∃ k, K = k + 1 := ⟨K - 1, by omega⟩
    have hf : (flat8 [(A.length : Int)]).length = 8 := by rw [flat8_len]; rfl
    have h5 := re_l1 a0 a1 a2 F A R J Ks hl A.length 0 k (x4 ++ flat8 [(A.length : Int)]) (by omega) (by have := hl.1; rw [List.length_append, hf]; omega) (by have := hl.1; omega)
    rw [show ((0 : Nat) : Int) = 0 from rfl] at h5
    rw [prebendref13_Encode.l0.eq_2, if_neg (by omega), encs_end eFund (by omega), rnums_f k x4 _ (by simp) (by omega) (by omega), Option.bind_some, h5, List.drop_zero, flat8_one]
    simp [tA]
  | n + 1, j, K, x4, h, hx, hK => by
    obtain ⟨k, rfl⟩ : ∃ k, K = k + 1 := ⟨K - 1, by omega⟩
    have hlt : j < F.length := by omega
    have hr : rd_T93 F (j : Int) = F[j] := rd_at _ F j hlt
    have hF := hl.1.1
    have hs := hl.2.1 _ (List.getElem_mem hlt)
    have hf : (flat8 [F[j].f1, F[j].f2]).length = 16 := by rw [flat8_len]; rfl
    have hw : (wd F[j].f0).length = 2 + F[j].f0.size := wd_len _
    rw [prebendref13_Encode.l0.eq_2, if_pos (by omega), if_pos (by omega), hr, if_neg (by omega), ref_text x4 _ (by omega) hs, Option.bind_some]
    change (prebendref13_nums.f k (x4 ++ wd F[j].f0) [F[j].f1, F[j].f2]).bind _ = _
    rw [rnums_f k _ _ (by simp) (by rw [List.length_append, hw]; omega) (by omega), Option.bind_some, up1 j (by omega),
      re_l0 hl n (j + 1) k _ (by omega) (by rw [List.length_append, List.length_append, hf, hw]; omega) (by omega), encs_drop eFund hlt]
    simp only [eFund, List.append_assoc]
end
theorem renc13_ok (K : Nat) (hK : 1300 ≤ K) (a0 a1 a2 : Int) (F : List S93) (A : List S95) (R : List S97) (J : List S100) (Ks : List ByteArray) (h : Lim F A R J Ks) : prebendref13_Encode.f K a0 a1 a2 F A R J Ks = some (encT a0 a1 a2 F A R J Ks, 0) := by
  obtain ⟨k, rfl⟩ : ∃ k, K = k + 1 := ⟨K - 1, by omega⟩
  have hl := h.1
  unfold prebendref13_Encode.f
  rw [if_neg (by omega), if_neg (by omega), if_neg (by omega), if_neg (by omega), decide_eq_false (show ¬ (Ks.length : Int) > 8 by omega), prebendref13_Encode.j0.eq_2, if_neg (by simp), rnums_f k [] _ (by simp) (by simp) (by omega), Option.bind_some]
  have hf : (flat8 [a0, a1, a2, (F.length : Int)]).length = 32 := by rw [flat8_len]; rfl
  have h0 := re_l0 a0 a1 a2 F A R J Ks h F.length 0 k ([] ++ flat8 [a0, a1, a2, (F.length : Int)]) (by omega) (by rw [List.length_append, hf]; simp; omega) (by omega)
  rw [show ((0 : Nat) : Int) = 0 from rfl] at h0
  rw [h0, List.drop_zero, List.nil_append]
  have e4 : flat8 [a0, a1, a2, (F.length : Int)] = flat8 [a0, a1, a2] ++ beN 8 (F.length : Int) := by rw [← flat8_one, ← flat8_app]; rfl
  rw [e4]
  simp only [encT, List.append_assoc]

section
variable (a0 a1 a2 : Int) (F : List S93) (A : List S95) (R : List S97) (J : List S100) (Ks : List ByteArray)
theorem all_drop {α : Type} {p : α → Prop} {L : List α} {j : Nat} (h : j < L.length) : (∀ x ∈ L.drop j, p x) ↔ p L[j] ∧ ∀ x ∈ L.drop (j + 1), p x := by
  rw [List.drop_eq_getElem_cons h, List.forall_mem_cons]
theorem rb_l5 (hL : Ks.length ≤ 8) : ∀ (n j K : Nat) (x4 : List Int), j + n = Ks.length → (¬ ∀ x ∈ Ks.drop j, x.size ≤ 16) → x4.length + 18 * n < 90000 → n + 200 ≤ K → prebendref13_Encode.l5 K x4 (j : Int) a0 a1 a2 F A R J Ks = some ([], 3)
  | 0, j, K, x4, h, hn, _, hK => by
    exfalso; apply hn; rw [List.drop_eq_nil_of_le (by omega)]; simp
  | n + 1, j, K, x4, h, hn, hl, hK => by
    obtain ⟨k, rfl⟩ : ∃ k, K = k + 1 := ⟨K - 1, by omega⟩
    have hlt : j < Ks.length := by omega
    have hr : rdOf ByteArray.empty Ks (j : Int) = Ks[j] := rd_at _ Ks j hlt
    rw [prebendref13_Encode.l5.eq_2, if_pos (by omega), if_pos (by omega), hr]
    by_cases hs : (Ks[j].size : Int) > 16
    · rw [if_pos hs]
    · have hw : (wd Ks[j]).length = 2 + Ks[j].size := wd_len _
      rw [if_neg hs, ref_text x4 _ (by omega) (by omega), Option.bind_some, up1 j (by omega)]
      rw [show (x4 ++ (beN 2 (Ks[j].size : Int) ++ bytesOf Ks[j])) = x4 ++ wd Ks[j] from rfl]
      exact rb_l5 hL n (j + 1) k _ (by omega) (fun q => hn ((all_drop hlt).2 ⟨by omega, q⟩)) (by rw [List.length_append, hw]; omega) (by omega)
theorem rb_l4 (y0 y1 y2 y3 y4 y5 y6 y7 y8 y9 y10 : Int) (D : List S102) (n jj : Nat) (hD : D.length ≤ 16) (next : ∀ (K : Nat) (x : List Int), 20 * n + 500 ≤ K → x.length + 400 * n < 40000 → prebendref13_Encode.l3 K x (wrap64 ((jj : Int) + 1)) a0 a1 a2 F A R J Ks = some ([], 3)) : ∀ (m i K : Nat) (x4 : List Int), i + m = D.length → x4.length + 16 * m + 400 * n < 40000 → m + 1 + 20 * n + 500 ≤ K → prebendref13_Encode.l4 K x4 (jj : Int) (i : Int) a0 a1 a2 F A R J Ks y0 y1 y2 y3 y4 y5 y6 y7 y8 y9 y10 D = some ([], 3)
  | 0, i, K, x4, h, hl, hK => by
    obtain ⟨k, rfl⟩ : ∃ k, K = k + 1 := ⟨K - 1, by omega⟩
    rw [prebendref13_Encode.l4.eq_2, if_neg (by omega), next k x4 (by omega) (by omega)]
  | m + 1, i, K, x4, h, hl, hK => by
    obtain ⟨k, rfl⟩ : ∃ k, K = k + 1 := ⟨K - 1, by omega⟩
    have hlt : i < D.length := by omega
    have hr : rd_T102 D (i : Int) = D[i] := rd_at _ D i hlt
    have hf : (flat8 [D[i].f0, D[i].f1]).length = 16 := by rw [flat8_len]; rfl
    rw [prebendref13_Encode.l4.eq_2, if_pos (by omega), if_pos (by omega), hr, rnums_f k x4 _ (by simp) (by omega) (by omega), Option.bind_some, up1 i (by omega),
      rb_l4 y0 y1 y2 y3 y4 y5 y6 y7 y8 y9 y10 D n jj hD next m (i + 1) k _ (by omega) (by rw [List.length_append, hf]; omega) (by omega)]
theorem rb_l3 (hl : F.length ≤ 8 ∧ A.length ≤ 16 ∧ R.length ≤ 16 ∧ J.length ≤ 16 ∧ Ks.length ≤ 8) : ∀ (n j K : Nat) (x4 : List Int), j + n = J.length → (¬ ((∀ x ∈ J.drop j, x.f11.length ≤ 16) ∧ ∀ x ∈ Ks, x.size ≤ 16)) → x4.length + 400 * n < 40000 → 20 * n + 500 ≤ K → prebendref13_Encode.l3 K x4 (j : Int) a0 a1 a2 F A R J Ks = some ([], 3)
  | 0, j, K, x4, h, hn, hx, hK => by
    obtain ⟨k, rfl⟩ : ∃ k, K = k + 1 := ⟨K - 1, by omega⟩
    have hf : (flat8 [(Ks.length : Int)]).length = 8 := by rw [flat8_len]; rfl
    have h5 := rb_l5 a0 a1 a2 F A R J Ks hl.2.2.2.2 Ks.length 0 k (x4 ++ flat8 [(Ks.length : Int)]) (by omega) (fun q => hn ⟨by rw [List.drop_eq_nil_of_le (by omega)]; simp, by rw [List.drop_zero] at q; exact q⟩) (by rw [List.length_append, hf]; omega) (by omega)
    rw [show ((0 : Nat) : Int) = 0 from rfl] at h5
    rw [prebendref13_Encode.l3.eq_2, if_neg (by omega), rnums_f k x4 _ (by simp) (by omega) (by omega), Option.bind_some, h5]
  | n + 1, j, K, x4, h, hn, hx, hK => by
    obtain ⟨k, rfl⟩ : ∃ k, K = k + 1 := ⟨K - 1, by omega⟩
    have hlt : j < J.length := by omega
    have hr : rd_T100 J (j : Int) = J[j] := rd_at _ J j hlt
    rw [prebendref13_Encode.l3.eq_2, if_pos (by omega), if_pos (by omega), hr]
    by_cases hs : (J[j].f11.length : Int) > 16
    · rw [if_pos hs]
    · have hf : (flat8 [J[j].f0, J[j].f1, J[j].f2, J[j].f3, J[j].f4, J[j].f5, J[j].f6, J[j].f7, J[j].f8, J[j].f9, J[j].f10, (J[j].f11.length : Int)]).length = 96 := by rw [flat8_len]; rfl
      have next : ∀ (K : Nat) (x : List Int), 20 * n + 500 ≤ K → x.length + 400 * n < 40000 → prebendref13_Encode.l3 K x (wrap64 ((j : Int) + 1)) a0 a1 a2 F A R J Ks = some ([], 3) := fun K x hK hx => by
        rw [up1 j (by omega)]; exact rb_l3 hl n (j + 1) K x (by omega) (fun q => hn ⟨(all_drop hlt).2 ⟨by omega, q.1⟩, q.2⟩) hx hK
      have h4 := rb_l4 a0 a1 a2 F A R J Ks J[j].f0 J[j].f1 J[j].f2 J[j].f3 J[j].f4 J[j].f5 J[j].f6 J[j].f7 J[j].f8 J[j].f9 J[j].f10 J[j].f11 n j (by omega) next J[j].f11.length 0 k (x4 ++ flat8 [J[j].f0, J[j].f1, J[j].f2, J[j].f3, J[j].f4, J[j].f5, J[j].f6, J[j].f7, J[j].f8, J[j].f9, J[j].f10, (J[j].f11.length : Int)]) (by omega) (by rw [List.length_append, hf]; omega) (by omega)
      rw [show ((0 : Nat) : Int) = 0 from rfl] at h4
      rw [if_neg hs, rnums_f k x4 _ (by simp) (by omega) (by omega), Option.bind_some, h4]
theorem rb_l2 (hl : F.length ≤ 8 ∧ A.length ≤ 16 ∧ R.length ≤ 16 ∧ J.length ≤ 16 ∧ Ks.length ≤ 8) (hn : ¬ ((∀ x ∈ J, x.f11.length ≤ 16) ∧ ∀ x ∈ Ks, x.size ≤ 16)) : ∀ (n j K : Nat) (x4 : List Int), j + n = R.length → x4.length + 24 * n < 30000 → n + 900 ≤ K → prebendref13_Encode.l2 K x4 (j : Int) a0 a1 a2 F A R J Ks = some ([], 3)
  | 0, j, K, x4, h, hx, hK => by
    obtain ⟨k, rfl⟩ : ∃ k, K = k + 1 := ⟨K - 1, by omega⟩
    have hf : (flat8 [(J.length : Int)]).length = 8 := by rw [flat8_len]; rfl
    have h5 := rb_l3 a0 a1 a2 F A R J Ks hl J.length 0 k (x4 ++ flat8 [(J.length : Int)]) (by omega) (by rw [List.drop_zero]; exact hn) (by rw [List.length_append, hf]; omega) (by omega)
    rw [show ((0 : Nat) : Int) = 0 from rfl] at h5
    rw [prebendref13_Encode.l2.eq_2, if_neg (by omega), rnums_f k x4 _ (by simp) (by omega) (by omega), Option.bind_some, h5]
  | n + 1, j, K, x4, h, hx, hK => by
    obtain ⟨k, rfl⟩ : ∃ k, K = k + 1 := ⟨K - 1, by omega⟩
    have hlt : j < R.length := by omega
    have hr : rd_T97 R (j : Int) = R[j] := rd_at _ R j hlt
    have hf : (flat8 [R[j].f0, R[j].f1, R[j].f2]).length = 24 := by rw [flat8_len]; rfl
    rw [prebendref13_Encode.l2.eq_2, if_pos (by omega), if_pos (by omega), hr, rnums_f k x4 _ (by simp) (by omega) (by omega), Option.bind_some, up1 j (by omega),
      rb_l2 hl hn n (j + 1) k _ (by omega) (by rw [List.length_append, hf]; omega) (by omega)]
theorem rb_l1 (hl : F.length ≤ 8 ∧ A.length ≤ 16 ∧ R.length ≤ 16 ∧ J.length ≤ 16 ∧ Ks.length ≤ 8) (hn : ¬ ((∀ x ∈ J, x.f11.length ≤ 16) ∧ ∀ x ∈ Ks, x.size ≤ 16)) : ∀ (n j K : Nat) (x4 : List Int), j + n = A.length → x4.length + 48 * n < 20000 → n + 1000 ≤ K → prebendref13_Encode.l1 K x4 (j : Int) a0 a1 a2 F A R J Ks = some ([], 3)
  | 0, j, K, x4, h, hx, hK => by
    obtain ⟨k, rfl⟩ : ∃ k, K = k + 1 := ⟨K - 1, by omega⟩
    have hf : (flat8 [(R.length : Int)]).length = 8 := by rw [flat8_len]; rfl
    have h5 := rb_l2 a0 a1 a2 F A R J Ks hl hn R.length 0 k (x4 ++ flat8 [(R.length : Int)]) (by omega) (by rw [List.length_append, hf]; omega) (by omega)
    rw [show ((0 : Nat) : Int) = 0 from rfl] at h5
    rw [prebendref13_Encode.l1.eq_2, if_neg (by omega), rnums_f k x4 _ (by simp) (by omega) (by omega), Option.bind_some, h5]
  | n + 1, j, K, x4, h, hx, hK => by
    obtain ⟨k, rfl⟩ : ∃ k, K = k + 1 := ⟨K - 1, by omega⟩
    have hlt : j < A.length := by omega
    have hr : rd_T95 A (j : Int) = A[j] := rd_at _ A j hlt
    have hf : (flat8 [A[j].f0, A[j].f1, A[j].f2, A[j].f3, A[j].f4, A[j].f5]).length = 48 := by rw [flat8_len]; rfl
    rw [prebendref13_Encode.l1.eq_2, if_pos (by omega), if_pos (by omega), hr, rnums_f k x4 _ (by simp) (by omega) (by omega), Option.bind_some, up1 j (by omega),
      rb_l1 hl hn n (j + 1) k _ (by omega) (by rw [List.length_append, hf]; omega) (by omega)]
theorem rb_l0 (hl : F.length ≤ 8 ∧ A.length ≤ 16 ∧ R.length ≤ 16 ∧ J.length ≤ 16 ∧ Ks.length ≤ 8) : ∀ (n j K : Nat) (x4 : List Int), j + n = F.length → (¬ ((∀ x ∈ F.drop j, x.f0.size ≤ 16) ∧ (∀ x ∈ J, x.f11.length ≤ 16) ∧ ∀ x ∈ Ks, x.size ≤ 16)) → x4.length + 34 * n < 10000 → n + 1100 ≤ K → prebendref13_Encode.l0 K x4 (j : Int) a0 a1 a2 F A R J Ks = some ([], 3)
  | 0, j, K, x4, h, hn, hx, hK => by
    obtain ⟨k, rfl⟩ : ∃ k, K = k + 1 := ⟨K - 1, by omega⟩
    have hf : (flat8 [(A.length : Int)]).length = 8 := by rw [flat8_len]; rfl
    have h5 := rb_l1 a0 a1 a2 F A R J Ks hl (fun q => hn ⟨by rw [List.drop_eq_nil_of_le (by omega)]; simp, q⟩) A.length 0 k (x4 ++ flat8 [(A.length : Int)]) (by omega) (by rw [List.length_append, hf]; omega) (by omega)
    rw [show ((0 : Nat) : Int) = 0 from rfl] at h5
    rw [prebendref13_Encode.l0.eq_2, if_neg (by omega), rnums_f k x4 _ (by simp) (by omega) (by omega), Option.bind_some, h5]
  | n + 1, j, K, x4, h, hn, hx, hK => by
    obtain ⟨k, rfl⟩ : ∃ k, K = k + 1 := ⟨K - 1, by omega⟩
    have hlt : j < F.length := by omega
    have hr : rd_T93 F (j : Int) = F[j] := rd_at _ F j hlt
    rw [prebendref13_Encode.l0.eq_2, if_pos (by omega), if_pos (by omega), hr]
    by_cases hs : (F[j].f0.size : Int) > 16
    · rw [if_pos hs]
    · have hf : (flat8 [F[j].f1, F[j].f2]).length = 16 := by rw [flat8_len]; rfl
      have hw : (wd F[j].f0).length = 2 + F[j].f0.size := wd_len _
      rw [if_neg hs, ref_text x4 _ (by omega) (by omega), Option.bind_some]
      change (prebendref13_nums.f k (x4 ++ wd F[j].f0) [F[j].f1, F[j].f2]).bind _ = _
      rw [rnums_f k _ _ (by simp) (by rw [List.length_append, hw]; omega) (by omega), Option.bind_some, up1 j (by omega),
        rb_l0 hl n (j + 1) k _ (by omega) (fun q => hn ⟨(all_drop hlt).2 ⟨by omega, q.1⟩, q.2⟩) (by rw [List.length_append, List.length_append, hf, hw]; omega) (by omega)]
theorem renc13_bad (K : Nat) (hK : 1300 ≤ K) (h : ¬ Lim F A R J Ks) : prebendref13_Encode.f K a0 a1 a2 F A R J Ks = some ([], 3) := by
  obtain ⟨k, rfl⟩ : ∃ k, K = k + 1 := ⟨K - 1, by omega⟩
  have hT : prebendref13_Encode.j0 (k + 1) true a0 a1 a2 F A R J Ks = some ([], 3) := by rw [prebendref13_Encode.j0.eq_2, if_pos rfl]
  unfold prebendref13_Encode.f
  by_cases c1 : (F.length : Int) > 8
  · rw [if_pos c1, hT]
  rw [if_neg c1]
  by_cases c2 : (A.length : Int) > 16
  · rw [if_pos c2, hT]
  rw [if_neg c2]
  by_cases c3 : (R.length : Int) > 16
  · rw [if_pos c3, hT]
  rw [if_neg c3]
  by_cases c4 : (J.length : Int) > 16
  · rw [if_pos c4, hT]
  rw [if_neg c4]
  by_cases c5 : (Ks.length : Int) > 8
  · rw [decide_eq_true c5, hT]
  have hl : F.length ≤ 8 ∧ A.length ≤ 16 ∧ R.length ≤ 16 ∧ J.length ≤ 16 ∧ Ks.length ≤ 8 := by omega
  rw [decide_eq_false c5, prebendref13_Encode.j0.eq_2, if_neg (by simp), rnums_f k [] _ (by simp) (by simp) (by omega), Option.bind_some]
  have hf : (flat8 [a0, a1, a2, (F.length : Int)]).length = 32 := by rw [flat8_len]; rfl
  have h0 := rb_l0 a0 a1 a2 F A R J Ks hl F.length 0 k ([] ++ flat8 [a0, a1, a2, (F.length : Int)]) (by omega) (by rw [List.drop_zero]; exact fun q => h ⟨hl, q⟩) (by rw [List.length_append, hf]; simp; omega) (by omega)
  rw [show ((0 : Nat) : Int) = 0 from rfl] at h0
  exact h0
end

theorem awake13 : ∀ k, 1350 ≤ k → prebendlaw13_awake.f k = some true := by
  intro k hk
  obtain ⟨j, rfl⟩ : ∃ j, k = 1350 + j := ⟨k - 1350, by omega⟩
  clear hk
  induction j with
  | zero => decide +kernel
  | succ j ih => exact prebendlaw13_awake.mono _ _ ih
theorem SnapEncodes : prebendlaw13_SnapEncodes.Pure := by
  intro a0 a1 a2 F A R J Ks h0 h1 h2 hF hA hR hJ hK
  refine ⟨1400, ?_⟩
  unfold prebendlaw13_SnapEncodes.f
  by_cases h : Lim F A R J Ks
  · rw [senc_ok 1400 (by omega) a0 a1 a2 F A R J Ks h, Option.bind_some, renc13_ok 1400 (by omega) a0 a1 a2 F A R J Ks h, Option.bind_some, awake13 _ (by omega), Option.bind_some, if_pos rfl, if_pos rfl]
    rfl
  · rw [senc_bad 1400 (by omega) a0 a1 a2 F A R J Ks h, Option.bind_some, renc13_bad a0 a1 a2 F A R J Ks 1400 (by omega) h, Option.bind_some, awake13 _ (by omega), Option.bind_some, if_pos rfl, if_pos rfl]
    rfl

end Go.Proofs.Ytjmkpcnekghmhaa.Pure
end
section
namespace Go.Proofs.Ytjmkpcnekghmhaa.Rd
open Go.ChangeShapes Go.WideShapes Go.Deep Go.RowKit Go.Proofs.YtjmkpcnekghmhaaW.PrintWords
set_option linter.unusedVariables false
def Rds {α : Type} (P : Program) (d : Kd α) (T : TypeId) (good : α → Prop) : Prop :=
  ∀ (H : Type) (enc : TypeId × Value → H) (w : World) (base : Nat) (spare : Nat → Bool) (held : Bool) (n : Nat) (cs : List Value) (y : DataW H × List MemPlace),
    DataW.trod enc P w base spare held n T cs = some y → ∃ x, d.K w x cs ∧ good x
theorem rds_int {P : Program} {T : TypeId} {k : IntKind} (ht : P.underlying T = some (.int k)) : Rds P (Kd.int k) T (fun x => (Lit.int k x).wf = true) := by
  intro H enc w base spare held n cs y h
  obtain ⟨m, rfl, _, hw⟩ := DataW.trod_int ht h
  exact ⟨m, rfl, hw⟩
theorem rds_string {P : Program} {T : TypeId} (ht : P.underlying T = some .string) : Rds P Kd.string T (fun s => s.size ≤ maxLen) := by
  intro H enc w base spare held n cs y h
  obtain ⟨m, rfl, _, hw⟩ := DataW.trod_string ht h
  exact ⟨m, rfl, hw⟩
theorem rds_slice {α : Type} {P : Program} {d : Kd α} {T e : TypeId} {good : α → Prop} (ht : P.underlying T = some (.slice e)) (hc : P.cellsOf e = d.sz) (hr : Rds P d e good) :
    Rds P (Kd.slice e d) T (fun xs => xs.length ≤ maxLen ∧ ∀ x ∈ xs, good x) := by
  intro H enc w base spare held n cs y h
  rcases open_slice ht h with ⟨rfl, _⟩ | ⟨a, len, cap, m, n', D, Pl, rfl, hb, hl, hm, hmm, _, hi⟩
  · exact ⟨[], ⟨none, 0, rfl, Nat.le_refl _, rfl, by simp, fun h0 => absurd h0 (by simp)⟩, by simp, by simp⟩
  · have hlm : len ≤ m := by rw [hmm]; split <;> omega
    have step : ∀ l, l ≤ len → ∃ xs : List α, xs.length = l ∧ (∀ x ∈ xs, good x) ∧ ∀ j p, xs[j]? = some p → ∃ c, w.cells? base (a.add (j * d.sz)) d.sz = some c ∧ d.K w p c := by
      intro l
      induction l with
      | zero => intro _; exact ⟨[], rfl, by simp, by simp⟩
      | succ l ih =>
        intro hl1
        obtain ⟨xs, hx, hg, hj⟩ := ih (by omega)
        obtain ⟨c, h1, h2⟩ := hi l (by omega)
        obtain ⟨x, k, g⟩ := hr _ _ _ _ _ _ _ _ _ h2
        rw [hc] at h1
        refine ⟨xs ++ [x], by simp [hx], ?_, ?_⟩
        · intro z hz
          rcases List.mem_append.1 hz with hz | hz
          · exact hg z hz
          · rw [List.mem_singleton.1 hz]; exact g
        · intro j p hp
          rcases Nat.lt_or_ge j xs.length with hlt | hge
          · rw [List.getElem?_append_left hlt] at hp; exact hj j p hp
          · have hjl : j = l := by
              have := (List.getElem?_eq_some_iff.1 hp).1
              rw [List.length_append, List.length_singleton] at this
              omega
            subst hjl
            rw [List.getElem?_append_right hge, hx, Nat.sub_self] at hp
            simp at hp
            subst hp
            exact ⟨c, h1, k⟩
    obtain ⟨xs, hx, hg, hj⟩ := step len (Nat.le_refl _)
    refine ⟨xs, ⟨some a, cap, by rw [hx], by omega, rfl, by rw [hx]; unfold maxLen at hm; omega, fun _ => ⟨a, rfl, fun j p hp => ?_⟩⟩, by rw [hx]; omega, hg⟩
    obtain ⟨c, h1, k⟩ := hj j p hp
    refine ⟨c, d.K_len k, k, fun i u hu => ?_⟩
    obtain ⟨_, hcl, hat⟩ := World.cells?_some h1
    have hil : i < d.sz := by have := (List.getElem?_eq_some_iff.1 hu).1; omega
    rw [← Go.Deep.add_add, hat i hil, hu]
theorem pair_mk {α β : Type} {a : Kd α} {b : Kd β} {w : World} {x : α} {y : β} {cs : List Value} {o : Nat} (h1 : a.K w x ((cs.drop o).take a.sz)) (h2 : b.K w y (cs.drop (o + a.sz))) : (Kd.pair a b).K w (x, y) (cs.drop o) :=
  ⟨_, _, by rw [← List.drop_drop]; exact (List.take_append_drop a.sz (cs.drop o)).symm, h1, h2⟩
theorem last_mk {α : Type} {a : Kd α} {w : World} {x : α} {cs : List Value} {o : Nat} (hl : cs.length = o + a.sz) (h1 : a.K w x ((cs.drop o).take a.sz)) : a.K w x (cs.drop o) := by
  rwa [List.take_of_length_le (by rw [List.length_drop]; omega)] at h1
theorem field {H : Type} {enc : TypeId × Value → H} {P : Program} {w : World} {base : Nat} {spare : Nat → Bool} {held : Bool} {n : Nat} {cs : List Value} {fs : Array Field} {xs : List (DataW H × List MemPlace)} (hx : xs.length = fs.size)
    (hf : ∀ (i : Nat) (f : Field), fs[i]? = some f → DataW.trod enc P w base spare held n f.type ((cs.drop f.offset).take (P.cellsOf f.type)) = xs[i]?)
    (i : Nat) (f : Field) (hi : fs[i]? = some f) {α : Type} {d : Kd α} {good : α → Prop} {o T : Nat} (ho : f.offset = o) (hT : f.type = T) (hc : P.cellsOf T = d.sz) (hr : Rds P d T good) : ∃ x, d.K w x ((cs.drop o).take d.sz) ∧ good x := by
  have h := hf i f hi
  have hlt : i < xs.length := by rw [hx]; exact (Array.getElem?_eq_some_iff.1 hi).1
  rw [List.getElem?_eq_getElem hlt, ho, hT, hc] at h
  exact hr _ _ _ _ _ _ _ _ _ h
end Go.Proofs.Ytjmkpcnekghmhaa.Rd
end
section
namespace Go.Proofs.Ytjmkpcnekghmhaa.snapEncodes
open Go.ChangeShapes Go.WideShapes Go.ChangeAt Go.RowKit Go.Proofs.YtjmkpcnekghmhaaW.PrintWords Go.Proofs.Ytjmkpcnekghmhaa.PAll
open Go.ChangeMaps (open_string shut_string)
set_option linter.unusedVariables false
theorem own : ownKnob Try.prog.godebug = none := by kernel_rfl
theorem laidOut : laidOutB Try.prog = true := by kernel_rfl
theorem rds93 : Rd.Rds Try.prog k93 93 g93 := by
  intro H enc w base spare held n cs y h
  obtain ⟨xs, m, _, _, hlen, hxl, hf⟩ := DataW.trod_struct Try.underlying93 h
  have hl : cs.length = 3 := hlen.trans (by kernel_rfl)
  obtain ⟨x0, h0, g0_⟩ := Rd.field hxl hf 0 _ rfl (d := Kd.string) (good := (fun x => x.size ≤ maxLen)) (o := 0) (T := 9) rfl rfl (by kernel_rfl) (Rd.rds_string Try.underlying9)
  obtain ⟨x1, h1, g1_⟩ := Rd.field hxl hf 1 _ rfl (d := (Kd.int .i64)) (good := (fun x => (Lit.int .i64 x).wf = true)) (o := 1) (T := 3) rfl rfl (by kernel_rfl) (Rd.rds_int Try.underlying3)
  obtain ⟨x2, h2, g2_⟩ := Rd.field hxl hf 2 _ rfl (d := (Kd.int .i64)) (good := (fun x => (Lit.int .i64 x).wf = true)) (o := 2) (T := 3) rfl rfl (by kernel_rfl) (Rd.rds_int Try.underlying3)
  have hK := (Rd.pair_mk (o := 0) h0 (Rd.pair_mk (o := 1) h1 (Rd.last_mk (a := (Kd.int .i64)) (o := 2) hl h2)))
  exact ⟨⟨x0, x1, x2⟩, (by rw [List.drop_zero] at hK; exact hK), ⟨g0_, g1_, g2_⟩⟩
theorem rds95 : Rd.Rds Try.prog k95 95 g95 := by
  intro H enc w base spare held n cs y h
  obtain ⟨xs, m, _, _, hlen, hxl, hf⟩ := DataW.trod_struct Try.underlying95 h
  have hl : cs.length = 6 := hlen.trans (by kernel_rfl)
  obtain ⟨x0, h0, g0_⟩ := Rd.field hxl hf 0 _ rfl (d := (Kd.int .i64)) (good := (fun x => (Lit.int .i64 x).wf = true)) (o := 0) (T := 3) rfl rfl (by kernel_rfl) (Rd.rds_int Try.underlying3)
  obtain ⟨x1, h1, g1_⟩ := Rd.field hxl hf 1 _ rfl (d := (Kd.int .i64)) (good := (fun x => (Lit.int .i64 x).wf = true)) (o := 1) (T := 3) rfl rfl (by kernel_rfl) (Rd.rds_int Try.underlying3)
  obtain ⟨x2, h2, g2_⟩ := Rd.field hxl hf 2 _ rfl (d := (Kd.int .i64)) (good := (fun x => (Lit.int .i64 x).wf = true)) (o := 2) (T := 3) rfl rfl (by kernel_rfl) (Rd.rds_int Try.underlying3)
  obtain ⟨x3, h3, g3_⟩ := Rd.field hxl hf 3 _ rfl (d := (Kd.int .i64)) (good := (fun x => (Lit.int .i64 x).wf = true)) (o := 3) (T := 3) rfl rfl (by kernel_rfl) (Rd.rds_int Try.underlying3)
  obtain ⟨x4, h4, g4_⟩ := Rd.field hxl hf 4 _ rfl (d := (Kd.int .i64)) (good := (fun x => (Lit.int .i64 x).wf = true)) (o := 4) (T := 3) rfl rfl (by kernel_rfl) (Rd.rds_int Try.underlying3)
  obtain ⟨x5, h5, g5_⟩ := Rd.field hxl hf 5 _ rfl (d := (Kd.int .i64)) (good := (fun x => (Lit.int .i64 x).wf = true)) (o := 5) (T := 3) rfl rfl (by kernel_rfl) (Rd.rds_int Try.underlying3)
  have hK := (Rd.pair_mk (o := 0) h0 (Rd.pair_mk (o := 1) h1 (Rd.pair_mk (o := 2) h2 (Rd.pair_mk (o := 3) h3 (Rd.pair_mk (o := 4) h4 (Rd.last_mk (a := (Kd.int .i64)) (o := 5) hl h5))))))
  exact ⟨⟨x0, x1, x2, x3, x4, x5⟩, (by rw [List.drop_zero] at hK; exact hK), ⟨g0_, g1_, g2_, g3_, g4_, g5_⟩⟩
theorem rds97 : Rd.Rds Try.prog k97 97 g97 := by
  intro H enc w base spare held n cs y h
  obtain ⟨xs, m, _, _, hlen, hxl, hf⟩ := DataW.trod_struct Try.underlying97 h
  have hl : cs.length = 3 := hlen.trans (by kernel_rfl)
  obtain ⟨x0, h0, g0_⟩ := Rd.field hxl hf 0 _ rfl (d := (Kd.int .i64)) (good := (fun x => (Lit.int .i64 x).wf = true)) (o := 0) (T := 3) rfl rfl (by kernel_rfl) (Rd.rds_int Try.underlying3)
  obtain ⟨x1, h1, g1_⟩ := Rd.field hxl hf 1 _ rfl (d := (Kd.int .i64)) (good := (fun x => (Lit.int .i64 x).wf = true)) (o := 1) (T := 3) rfl rfl (by kernel_rfl) (Rd.rds_int Try.underlying3)
  obtain ⟨x2, h2, g2_⟩ := Rd.field hxl hf 2 _ rfl (d := (Kd.int .i64)) (good := (fun x => (Lit.int .i64 x).wf = true)) (o := 2) (T := 3) rfl rfl (by kernel_rfl) (Rd.rds_int Try.underlying3)
  have hK := (Rd.pair_mk (o := 0) h0 (Rd.pair_mk (o := 1) h1 (Rd.last_mk (a := (Kd.int .i64)) (o := 2) hl h2)))
  exact ⟨⟨x0, x1, x2⟩, (by rw [List.drop_zero] at hK; exact hK), ⟨g0_, g1_, g2_⟩⟩
theorem rds102 : Rd.Rds Try.prog k102 102 g102 := by
  intro H enc w base spare held n cs y h
  obtain ⟨xs, m, _, _, hlen, hxl, hf⟩ := DataW.trod_struct Try.underlying102 h
  have hl : cs.length = 2 := hlen.trans (by kernel_rfl)
  obtain ⟨x0, h0, g0_⟩ := Rd.field hxl hf 0 _ rfl (d := (Kd.int .i64)) (good := (fun x => (Lit.int .i64 x).wf = true)) (o := 0) (T := 3) rfl rfl (by kernel_rfl) (Rd.rds_int Try.underlying3)
  obtain ⟨x1, h1, g1_⟩ := Rd.field hxl hf 1 _ rfl (d := (Kd.int .i64)) (good := (fun x => (Lit.int .i64 x).wf = true)) (o := 1) (T := 3) rfl rfl (by kernel_rfl) (Rd.rds_int Try.underlying3)
  have hK := (Rd.pair_mk (o := 0) h0 (Rd.last_mk (a := (Kd.int .i64)) (o := 1) hl h1))
  exact ⟨⟨x0, x1⟩, (by rw [List.drop_zero] at hK; exact hK), ⟨g0_, g1_⟩⟩
theorem rds100 : Rd.Rds Try.prog k100 100 g100 := by
  intro H enc w base spare held n cs y h
  obtain ⟨xs, m, _, _, hlen, hxl, hf⟩ := DataW.trod_struct Try.underlying100 h
  have hl : cs.length = 12 := hlen.trans (by kernel_rfl)
  obtain ⟨x0, h0, g0_⟩ := Rd.field hxl hf 0 _ rfl (d := (Kd.int .i64)) (good := (fun x => (Lit.int .i64 x).wf = true)) (o := 0) (T := 3) rfl rfl (by kernel_rfl) (Rd.rds_int Try.underlying3)
  obtain ⟨x1, h1, g1_⟩ := Rd.field hxl hf 1 _ rfl (d := (Kd.int .i64)) (good := (fun x => (Lit.int .i64 x).wf = true)) (o := 1) (T := 3) rfl rfl (by kernel_rfl) (Rd.rds_int Try.underlying3)
  obtain ⟨x2, h2, g2_⟩ := Rd.field hxl hf 2 _ rfl (d := (Kd.int .i64)) (good := (fun x => (Lit.int .i64 x).wf = true)) (o := 2) (T := 3) rfl rfl (by kernel_rfl) (Rd.rds_int Try.underlying3)
  obtain ⟨x3, h3, g3_⟩ := Rd.field hxl hf 3 _ rfl (d := (Kd.int .i64)) (good := (fun x => (Lit.int .i64 x).wf = true)) (o := 3) (T := 3) rfl rfl (by kernel_rfl) (Rd.rds_int Try.underlying3)
  obtain ⟨x4, h4, g4_⟩ := Rd.field hxl hf 4 _ rfl (d := (Kd.int .i64)) (good := (fun x => (Lit.int .i64 x).wf = true)) (o := 4) (T := 3) rfl rfl (by kernel_rfl) (Rd.rds_int Try.underlying3)
  obtain ⟨x5, h5, g5_⟩ := Rd.field hxl hf 5 _ rfl (d := (Kd.int .i64)) (good := (fun x => (Lit.int .i64 x).wf = true)) (o := 5) (T := 3) rfl rfl (by kernel_rfl) (Rd.rds_int Try.underlying3)
  obtain ⟨x6, h6, g6_⟩ := Rd.field hxl hf 6 _ rfl (d := (Kd.int .i64)) (good := (fun x => (Lit.int .i64 x).wf = true)) (o := 6) (T := 3) rfl rfl (by kernel_rfl) (Rd.rds_int Try.underlying3)
  obtain ⟨x7, h7, g7_⟩ := Rd.field hxl hf 7 _ rfl (d := (Kd.int .i64)) (good := (fun x => (Lit.int .i64 x).wf = true)) (o := 7) (T := 3) rfl rfl (by kernel_rfl) (Rd.rds_int Try.underlying3)
  obtain ⟨x8, h8, g8_⟩ := Rd.field hxl hf 8 _ rfl (d := (Kd.int .i64)) (good := (fun x => (Lit.int .i64 x).wf = true)) (o := 8) (T := 3) rfl rfl (by kernel_rfl) (Rd.rds_int Try.underlying3)
  obtain ⟨x9, h9, g9_⟩ := Rd.field hxl hf 9 _ rfl (d := (Kd.int .i64)) (good := (fun x => (Lit.int .i64 x).wf = true)) (o := 9) (T := 3) rfl rfl (by kernel_rfl) (Rd.rds_int Try.underlying3)
  obtain ⟨x10, h10, g10_⟩ := Rd.field hxl hf 10 _ rfl (d := (Kd.int .i64)) (good := (fun x => (Lit.int .i64 x).wf = true)) (o := 10) (T := 3) rfl rfl (by kernel_rfl) (Rd.rds_int Try.underlying3)
  obtain ⟨x11, h11, g11_⟩ := Rd.field hxl hf 11 _ rfl (d := (Kd.slice 102 k102)) (good := (fun x => (x.length ≤ maxLen ∧ ∀ y ∈ x, g102 y))) (o := 11) (T := 98) rfl rfl (by kernel_rfl) (Rd.rds_slice (P := Try.prog) (T := 98) Try.underlying98 (by kernel_rfl) rds102)
  have hK := (Rd.pair_mk (o := 0) h0 (Rd.pair_mk (o := 1) h1 (Rd.pair_mk (o := 2) h2 (Rd.pair_mk (o := 3) h3 (Rd.pair_mk (o := 4) h4 (Rd.pair_mk (o := 5) h5 (Rd.pair_mk (o := 6) h6 (Rd.pair_mk (o := 7) h7 (Rd.pair_mk (o := 8) h8 (Rd.pair_mk (o := 9) h9 (Rd.pair_mk (o := 10) h10 (Rd.last_mk (a := (Kd.slice 102 k102)) (o := 11) hl h11))))))))))))
  exact ⟨⟨x0, x1, x2, x3, x4, x5, x6, x7, x8, x9, x10, x11⟩, (by rw [List.drop_zero] at hK; exact hK), ⟨g0_, g1_, g2_, g3_, g4_, g5_, g6_, g7_, g8_, g9_, g10_, g11_⟩⟩
theorem rds67 : Rd.Rds Try.prog k67 67 g67 := by
  intro H enc w base spare held n cs y h
  obtain ⟨xs, m, _, _, hlen, hxl, hf⟩ := DataW.trod_struct Try.underlying67 h
  have hl : cs.length = 8 := hlen.trans (by kernel_rfl)
  obtain ⟨x0, h0, g0_⟩ := Rd.field hxl hf 0 _ rfl (d := (Kd.int .i64)) (good := (fun x => (Lit.int .i64 x).wf = true)) (o := 0) (T := 3) rfl rfl (by kernel_rfl) (Rd.rds_int Try.underlying3)
  obtain ⟨x1, h1, g1_⟩ := Rd.field hxl hf 1 _ rfl (d := (Kd.int .i64)) (good := (fun x => (Lit.int .i64 x).wf = true)) (o := 1) (T := 3) rfl rfl (by kernel_rfl) (Rd.rds_int Try.underlying3)
  obtain ⟨x2, h2, g2_⟩ := Rd.field hxl hf 2 _ rfl (d := (Kd.int .i64)) (good := (fun x => (Lit.int .i64 x).wf = true)) (o := 2) (T := 3) rfl rfl (by kernel_rfl) (Rd.rds_int Try.underlying3)
  obtain ⟨x3, h3, g3_⟩ := Rd.field hxl hf 3 _ rfl (d := (Kd.slice 93 k93)) (good := (fun x => (x.length ≤ maxLen ∧ ∀ y ∈ x, g93 y))) (o := 3) (T := 62) rfl rfl (by kernel_rfl) (Rd.rds_slice (P := Try.prog) (T := 62) Try.underlying62 (by kernel_rfl) rds93)
  obtain ⟨x4, h4, g4_⟩ := Rd.field hxl hf 4 _ rfl (d := (Kd.slice 95 k95)) (good := (fun x => (x.length ≤ maxLen ∧ ∀ y ∈ x, g95 y))) (o := 4) (T := 63) rfl rfl (by kernel_rfl) (Rd.rds_slice (P := Try.prog) (T := 63) Try.underlying63 (by kernel_rfl) rds95)
  obtain ⟨x5, h5, g5_⟩ := Rd.field hxl hf 5 _ rfl (d := (Kd.slice 97 k97)) (good := (fun x => (x.length ≤ maxLen ∧ ∀ y ∈ x, g97 y))) (o := 5) (T := 64) rfl rfl (by kernel_rfl) (Rd.rds_slice (P := Try.prog) (T := 64) Try.underlying64 (by kernel_rfl) rds97)
  obtain ⟨x6, h6, g6_⟩ := Rd.field hxl hf 6 _ rfl (d := (Kd.slice 100 k100)) (good := (fun x => (x.length ≤ maxLen ∧ ∀ y ∈ x, g100 y))) (o := 6) (T := 65) rfl rfl (by kernel_rfl) (Rd.rds_slice (P := Try.prog) (T := 65) Try.underlying65 (by kernel_rfl) rds100)
  obtain ⟨x7, h7, g7_⟩ := Rd.field hxl hf 7 _ rfl (d := (Kd.slice 9 Kd.string)) (good := (fun x => (x.length ≤ maxLen ∧ ∀ y ∈ x, y.size ≤ maxLen))) (o := 7) (T := 43) rfl rfl (by kernel_rfl) (Rd.rds_slice (P := Try.prog) (T := 43) Try.underlying43 (by kernel_rfl) (Rd.rds_string Try.underlying9))
  have hK := (Rd.pair_mk (o := 0) h0 (Rd.pair_mk (o := 1) h1 (Rd.pair_mk (o := 2) h2 (Rd.pair_mk (o := 3) h3 (Rd.pair_mk (o := 4) h4 (Rd.pair_mk (o := 5) h5 (Rd.pair_mk (o := 6) h6 (Rd.last_mk (a := (Kd.slice 9 Kd.string)) (o := 7) hl h7))))))))
  exact ⟨⟨x0, x1, x2, x3, x4, x5, x6, x7⟩, (by rw [List.drop_zero] at hK; exact hK), ⟨g0_, g1_, g2_, g3_, g4_, g5_, g6_, g7_⟩⟩
set_option maxRecDepth 100000 in
theorem lifted (os : Os) (started : os.Started) (H : Type) (enc : TypeId × Value → H) :
    ReturnsInHanded {} Try.checked os 12 .any (Rows.snapEncodesSpec.pre6 enc Try.prog Try.f12 Rows.snapEncodesRow.domain false) (Rows.snapEncodesSpec.post enc Try.prog Try.f12 false true false false) := by
  refine returnsInHanded_of_change_sized (C := Try.checked) own started (by kernel_rfl) Try.func12
    (ChangeSpec.witness6 (enc := enc) (C := Try.checked) false ⟨#[], #[.agg #[.int .i64 0, .int .i64 0, .int .i64 0, .slice none 0 0, .slice none 0 0, .slice none 0 0, .slice none 0 0, .slice none 0 0]], []⟩ 8 (by kernel_rfl) (by kernel_rfl) (by kernel_rfl) (by kernel_rfl)) ?_
  intro W base args ds gs before hval0 hW hcnd hsz0 _
  have hval : ∀ (j : Nat) t v, Try.f12.params[j]? = some t → args[j]? = some v → Value.okWide Try.prog W .any base t v := hval0
  have hW' := hW
  obtain ⟨p, q, hA0, hV, rfl, hfz, hnd⟩ := hW
  have hA : DataW.TrodAll enc Try.prog W 0 (fun _ => true) true Try.f12.params.toList args.toList ds p := hA0
  rw [Try.params12] at hA hval
  obtain ⟨v0, vs0, d0, ds0, p0, q0, hargs, rfl, rfl, h0, r0⟩ := trodAll_cons hA
  obtain ⟨rfl, rfl, rfl⟩ := trodAll_nil r0
  obtain rfl : args = #[v0] := by cases args; simp_all
  obtain ⟨rfl, rfl⟩ := trodVars_none hV
  obtain ⟨⟨cs0⟩, rfl, hz0⟩ := okWide_struct Try.underlying67 (hval 0 67 v0 rfl rfl)
  have k0 := h0
  have lt0 : ∀ x ∈ p0, x.block < W.heap.size := by obtain ⟨m, hm⟩ := k0; exact DataW.trod_lt m _ _ _ hm
  obtain ⟨x0, hK0, g0_⟩ : ∃ x, k67.K W x cs0 ∧ g67 x := by
    obtain ⟨fuel, hf⟩ := h0
    exact rds67 _ _ _ _ _ _ _ _ _ hf
  obtain ⟨A0_3, c0_3, A0_4, c0_4, A0_5, c0_5, A0_6, c0_6, A0_7, c0_7, hcs0, hl0_3, hC0_3, hl0_4, hC0_4, hl0_5, hC0_5, hl0_6, hC0_6, hl0_7, hC0_7⟩ := k67_open hK0
  subst hcs0
  clear hA0 hval0 hsz0
  refine (PAll.prebendlaw13_SnapEncodes.walk Pure.SnapEncodes x0.f0 x0.f1 x0.f2 _ _ x0.f3 _ _ x0.f4 _ _ x0.f5 _ _ x0.f6 _ _ x0.f7 W hC0_3 hl0_3 hC0_4 hl0_4 hC0_5 hl0_5 hC0_6 hl0_6 hC0_7 hl0_7 g0_.1 g0_.2.1 g0_.2.2.1 g0_.2.2.2.1 g0_.2.2.2.2.1 g0_.2.2.2.2.2.1 g0_.2.2.2.2.2.2.1 g0_.2.2.2.2.2.2.2).mono fun e W' ⟨he, bel⟩ => ?_
  subst he
  exact ⟨_, rfl, _, _, _, [], _, [], hW', trodAll_mk1 (shut_bool Try.underlying4 _), (trodAll_cons_mk (Below.trod laidOut (by kernel_rfl) (of_decide_eq_true (by kernel_rfl)) k0 bel lt0) trodAll_mk0), rfl, bel.frame _, fun h => by cases h⟩
theorem over : Rows.snapEncodesRow.holds Try.pinned (OpenSpec.ofChange Rows.snapEncodesSpec) :=
  OpenClaim.holds_of_wide 12 Try.f12 rfl rfl rfl rfl rfl rfl rfl ⟨rfl, rfl, rfl, rfl, rfl⟩ rfl rfl rfl rfl rfl (by kernel_rfl) Try.func12 (by kernel_rfl)
    (of_decide_eq_true (by kernel_rfl)) (by unfold Func.isWrapper; first | (rw [if_pos (by decide +kernel)]; kernel_rfl) | (rw [if_neg (by decide +kernel)]; exact ⟨rfl, rfl⟩))
    (fun os started H enc _ => lifted os started H enc)
theorem proved : Rows.SnapEncodesSaid := over
#print axioms proved
end Go.Proofs.Ytjmkpcnekghmhaa.snapEncodes
namespace Go.Proofs.Ytjmkpcnekghmhaa
/-- The row, under a short name, for the claim. -/
theorem snapEncodes_holds : Rows.SnapEncodesSaid := snapEncodes.proved
end Go.Proofs.Ytjmkpcnekghmhaa
end
