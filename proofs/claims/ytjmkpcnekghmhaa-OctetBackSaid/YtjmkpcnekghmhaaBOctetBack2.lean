/- Words, plain functions and contracts of the functions that the law of this claim reaches; no conditions. -/
import Derived.Test.YtjmkpcnekghmhaaBOctetBack1
section
namespace Go.Proofs.Ytjmkpcnekghmhaa.PAll
open Go.RowKit Go.Proofs.YtjmkpcnekghmhaaW.PrintWords Go.Proofs.YtjmkpcnekghmhaaW.PrintLast Go.Proofs.YtjmkpcnekghmhaaW.PrintMore
attribute [local go_sem] max2_int min2_int max_two min_two max_three min_three max_four min_four   -- for this text's walks alone
set_option linter.unusedVariables false
set_option linter.unusedSimpArgs false

/-! ### prebendlaw03_OctetBack: function 5 -/
-- beside prebendlaw03_awake.calls, prebendref03_Int.calls, prebendref03_Text.calls, octet_Int.calls, octet_Text.calls, octet_put.calls, slices_Clip_byte.calls, new_f
def prebendlaw03_OctetBack.Pure : Prop := ∀ (l0 : List Int) (l1 : List ByteArray) (a2 : Int), l0.length ≤ maxLen → True
namespace BackB
theorem clip_b (A : Option Addr) (n c : Nat) (w : World) (hc : n ≤ c) :
    Calls Try.prog 39 #[.slice A n c] w fun e w' => e = .returned (.slice A n n) ∧ w' = w := by
  have hcut := slices_Clip_byte.cut A n c hc
  go_enter Try.func39, Try.ntmps39
  go_wp2
  go_ret
  exact ⟨rfl, rfl⟩
/-- A number's bytes, the highest first. -/
def beN : Nat → Int → List Int
  | 0, _ => []
  | d + 1, v => (v / 2 ^ (8 * d) % 256) :: beN d v
theorem beN_len (v : Int) : ∀ d, (beN d v).length = d
  | 0 => rfl
  | d + 1 => by simp [beN, beN_len v d]
theorem put_run (v : Int) : ∀ (d : Nat) (xs : List Int), d ≤ 8 → xs.length + d < 140737488355328 → octet_put.l0 (d + 1) v ((d : Int) - 1) xs = some (xs ++ beN d v)
  | 0, xs, _, _ => by
    rw [octet_put.l0.eq_2, if_neg (by simp)]; simp [beN]
  | d + 1, xs, h, hl => by
    have e1 : wrap64 (8 * (((d + 1 : Nat) : Int) - 1)) = ((8 * d : Nat) : Int) := by unfold wrap64; omega
    have e2 : wrap64 ((((d + 1 : Nat) : Int) - 1) - 1) = (d : Int) - 1 := by unfold wrap64; omega
    have e3 : shr .i64 v ((8 * d : Nat) : Int) = v / 2 ^ (8 * d) := by
      have := shr_small (rfl : shr .i64 v ((8 * d : Nat) : Int) = shr .i64 v ((8 * d : Nat) : Int)) (by show ((8 * d : Nat) : Int) ≤ 64; omega)
      rw [Int.toNat_natCast] at this
      exact this.symm
    rw [octet_put.l0.eq_2, if_pos (by omega), e1, e2, if_pos (by omega), if_pos (by omega), e3, put_run v d _ (by omega) (by simp; omega)]
    simp [beN]
theorem int_be (l : List Int) (v : Int) (hl : l.length + 8 < 140737488355328) : octet_Int.f 9 l v = some (l ++ beN 8 v) := by
  have e : wrap64 (8 - 1) = ((8 : Nat) : Int) - 1 := by decide +kernel
  have h := put_run v 8 l (by omega) hl
  unfold octet_Int.f octet_put.f
  have h1 : slices_Clone_byte.f l = some l := by unfold slices_Clone_byte.f; simp only [Option.bind_some]; rw [if_pos (by simp; omega)]; rfl
  have h2 : slices_Grow_byte.f l 8 = some l := by unfold slices_Grow_byte.f; rw [if_pos (by omega), if_pos (by omega)]
  rw [h1, Option.bind_some, h2, Option.bind_some, e, h]
  rfl
theorem be_num (bs : List Int) (hb : ∀ x ∈ bs, 0 ≤ x ∧ x ≤ 255) (hl : bs.length = 8) : beN 8 (numS bs 0) = bs := by
  obtain ⟨c0, c1, c2, c3, c4, c5, c6, c7, rfl⟩ : ∃ c0 c1 c2 c3 c4 c5 c6 c7, bs = [c0, c1, c2, c3, c4, c5, c6, c7] := by
    match bs, hl with
    | [c0, c1, c2, c3, c4, c5, c6, c7], _ => exact ⟨_, _, _, _, _, _, _, _, rfl⟩
  simp only [List.mem_cons, List.not_mem_nil, or_false, forall_eq_or_imp, forall_eq] at hb
  obtain ⟨h0, h1, h2, h3, h4, h5, h6, h7⟩ := hb
  simp only [numS]
  rw [or_byte 0 c0 h0.1 (by omega), show wrap64 (0 * 256 + c0) = c0 by unfold wrap64; omega]
  rw [or_byte _ c1 h1.1 (by omega), show wrap64 (c0 * 256 + c1) = c0 * 256 + c1 by unfold wrap64; omega]
  rw [or_byte _ c2 h2.1 (by omega), show wrap64 ((c0 * 256 + c1) * 256 + c2) = c0 * 65536 + c1 * 256 + c2 by unfold wrap64; omega]
  rw [or_byte _ c3 h3.1 (by omega), show wrap64 ((c0 * 65536 + c1 * 256 + c2) * 256 + c3) = c0 * 16777216 + c1 * 65536 + c2 * 256 + c3 by unfold wrap64; omega]
  rw [or_byte _ c4 h4.1 (by omega)]
  generalize hx : c0 * 16777216 + c1 * 65536 + c2 * 256 + c3 = x
  rw [show wrap64 (x * 256 + c4) = x * 256 + c4 by unfold wrap64; omega]
  rw [or_byte _ c5 h5.1 (by omega), show wrap64 ((x * 256 + c4) * 256 + c5) = x * 65536 + c4 * 256 + c5 by unfold wrap64; omega]
  rw [or_byte _ c6 h6.1 (by omega), show wrap64 ((x * 65536 + c4 * 256 + c5) * 256 + c6) = x * 16777216 + c4 * 65536 + c5 * 256 + c6 by unfold wrap64; omega]
  rw [or_byte _ c7 h7.1 (by omega)]
  generalize hy : wrap64 ((x * 16777216 + c4 * 65536 + c5 * 256 + c6) * 256 + c7) = y
  have hy2 : y = x * 4294967296 + c4 * 16777216 + c5 * 65536 + c6 * 256 + c7 ∨ y = x * 4294967296 + c4 * 16777216 + c5 * 65536 + c6 * 256 + c7 - 18446744073709551616 := by rw [← hy]; unfold wrap64; omega
  simp only [beN]
  have q0 : y / 2 ^ (8 * 7) % 256 = c0 := by show y / 72057594037927936 % 256 = c0; omega
  have q1 : y / 2 ^ (8 * 6) % 256 = c1 := by show y / 281474976710656 % 256 = c1; omega
  have q2 : y / 2 ^ (8 * 5) % 256 = c2 := by show y / 1099511627776 % 256 = c2; omega
  have q3 : y / 2 ^ (8 * 4) % 256 = c3 := by show y / 4294967296 % 256 = c3; omega
  have q4 : y / 2 ^ (8 * 3) % 256 = c4 := by show y / 16777216 % 256 = c4; omega
  have q5 : y / 2 ^ (8 * 2) % 256 = c5 := by show y / 65536 % 256 = c5; omega
  have q6 : y / 2 ^ (8 * 1) % 256 = c6 := by show y / 256 % 256 = c6; omega
  have q7 : y / 2 ^ (8 * 0) % 256 = c7 := by show y / 1 % 256 = c7; omega
  rw [q0, q1, q2, q3, q4, q5, q6, q7]
/-- A row of bytes that lies in a block that may be written. -/
def Ow (g : Nat) (r : List Int) (W : World) : Prop := ∃ arr : Array Value, W.heap[g]? = some (.cells arr 5 (0, 0)) ∧ r.length ≤ arr.size ∧ arr.toList.take r.length = nums .u8 r
theorem Ow.C {g : Nat} {r : List Int} {W : World} (h : Ow g r W) (hm : r.length < 140737488355328) : Kd.C (Kd.int .u8) W (some ⟨g, 0, none⟩) r.length r := by
  obtain ⟨arr, h1, h2, h3⟩ := h
  refine ⟨rfl, by omega, fun _ => ⟨_, rfl, fun j p hj => ⟨[.int .u8 p], rfl, rfl, fun i u hu => ?_⟩⟩⟩
  obtain rfl : i = 0 := by
    rcases i with _ | i
    · rfl
    · simp at hu
  obtain rfl : Value.int .u8 p = u := by simpa using hu
  show W.cell? (Addr.add ⟨g, 0, none⟩ (j * 1 + 0)) = _
  rw [add_plain, blk_cell h1]
  have hjl : j < r.length := (List.getElem?_eq_some_iff.1 hj).1
  have : (arr.toList.take r.length)[j]? = some (.int .u8 p) := by rw [h3]; simp [nums, hj]
  rw [List.getElem?_take, if_pos hjl] at this
  simpa using this
theorem Ow.below {g : Nat} {r : List Int} {W W1 : World} (h : Ow g r W) (hb : Below W.heap.size W W1) : Ow g r W1 := by
  obtain ⟨arr, h1, h2⟩ := h
  exact ⟨arr, blk_below h1 hb, h2⟩
theorem int_own (A0 : Option Addr) (c0 : Nat) (l0 : List Int) (a1 : Int) (w : World) (hr0 : Kd.C (Kd.int .u8) w A0 l0.length l0) (hc0 : l0.length ≤ c0) (hl : l0.length + 8 < 140737488355328) :
    Calls Try.prog 18 #[.slice A0 l0.length c0, .int .i64 a1] w fun e w' => ∃ g, e = .returned (.slice (some ⟨g, 0, none⟩) (l0 ++ beN 8 a1).length (l0 ++ beN 8 a1).length) ∧ w.heap.size ≤ g ∧ Ow g (l0 ++ beN 8 a1) w' ∧ Below w.heap.size w w' := by
  have hf : octet_put.f 9 l0 a1 8 = some (l0 ++ beN 8 a1) := by
    have := int_be l0 a1 hl
    unfold octet_Int.f at this
    obtain ⟨t, ht, h2⟩ := Option.bind_eq_some_iff.1 this
    have : t = l0 ++ beN 8 a1 := by simpa [slices_Clip_byte.f] using h2
    rw [ht, this]
  have hpos : 0 < (l0 ++ beN 8 a1).length := by simp [beN_len]
  have HF := Aside0.mk hf
  have HR := Aside0.mk hr0
  have HC := Aside0.mk hc0
  obtain ⟨r, hr⟩ : ∃ r, l0 ++ beN 8 a1 = r := ⟨_, rfl⟩
  rw [hr] at HF hpos ⊢
  have HPO := Aside0.mk hpos
  clear hf hr0 hc0 hr hpos hl
  go_enter Try.func18, Try.ntmps18
  go_wp2_with (first
    | (go_at_call 40; (with_reducible refine (octet_put.calls 9 A0 c0 l0 a1 8 r w HR.out HC.out HF.out).mono ?_); rintro e w1 ⟨v, rfl, ho, hb⟩; have hown := Kd.own_of_R ho; rcases hown.2 with ⟨e, e0⟩ | ⟨g, cap, cur, e, hbg, hheap, hn, hm, hsz, htake⟩; (exact absurd e0 (by have := HPO.out; omega)); subst e; have HH := Aside0.mk hheap; have HT := Aside0.mk htake; have HN := Aside0.mk hn; have HB := Aside0.mk hb; have HZ := Aside0.mk hsz; have HG := Aside0.mk hbg; clear hheap htake hn hb hsz hown hbg hm ho)
    | (go_at_call 39; (with_reducible refine (clip_b _ _ _ _ HN.out).mono ?_); rintro e w2 ⟨rfl, rfl⟩))
  go_ret
  refine ⟨g, rfl, HG.out, ⟨cur, HH.out, by have := HZ.out; have := HN.out; omega, ?_⟩, HB.out⟩
  have := HT.out
  rw [Nat.mul_one] at this
  rw [this]
  rfl
theorem int_V (A0 : Option Addr) (c0 : Nat) (l0 : List Int) (a1 : Int) (w : World) (hr0 : Kd.C (Kd.int .u8) w A0 l0.length l0) (hc0 : l0.length ≤ c0) (hl : l0.length + 8 < 140737488355328) :
    Calls Try.prog 18 #[.slice A0 l0.length c0, .int .i64 a1] w fun e w' => ∃ A c, e = .returned (.slice A (l0 ++ beN 8 a1).length c) ∧ Kd.V (Kd.int .u8) 5 w' 0 (fun k => w.heap.size ≤ k) (.slice A (l0 ++ beN 8 a1).length c) (l0 ++ beN 8 a1) ∧ Below w.heap.size w w' := by
  refine (octet_Int.calls 9 A0 c0 l0 a1 _ w hr0 hc0 (int_be l0 a1 hl)).mono ?_
  rintro e w' ⟨v, rfl, hv, hb⟩
  obtain ⟨A, c, rfl, hc, hF⟩ := hv
  exact ⟨A, c, rfl, Kd.V_mk (e := 5) (base := 0) hc hF, hb⟩
theorem text_z (l : List Int) (hl : l.length + 3 < 140737488355328) : octet_Text.f 9 l ⟨#[122]⟩ = some (l ++ [0, 1, 122], 0) := by
  have h1 : slices_Clone_byte.f l = some l := by unfold slices_Clone_byte.f; simp only [Option.bind_some]; rw [if_pos (by simp; omega)]; rfl
  have h2 : slices_Grow_byte.f l 2 = some l := by unfold slices_Grow_byte.f; rw [if_pos (by omega), if_pos (by omega)]
  have e : wrap64 (2 - 1) = ((2 : Nat) : Int) - 1 := by decide +kernel
  have h := octet_put.l0.eq_2
  have hp : octet_put.f 9 l 1 2 = some (l ++ [0, 1]) := by
    unfold octet_put.f
    rw [h1, Option.bind_some, h2, Option.bind_some, e]
    have e1 : wrap64 (8 * (((2 : Nat) : Int) - 1)) = 8 := by decide +kernel
    have e2 : wrap64 ((((2 : Nat) : Int) - 1) - 1) = 0 := by decide +kernel
    have e3 : wrap64 (8 * 0) = 0 := by decide +kernel
    have e4 : wrap64 (0 - 1) = -1 := by decide +kernel
    have s1 : shr .i64 1 8 % 256 = 0 := by decide +kernel
    have s2 : shr .i64 1 0 % 256 = 1 := by decide +kernel
    rw [h, if_pos (by omega), e1, e2, if_pos (by omega), if_pos (by omega), h, if_pos (by omega), e3, e4, if_pos (by omega), if_pos (by simp; omega), h, if_neg (by omega), s1, s2]
    simp
  unfold octet_Text.f
  rw [if_neg (by decide), show (((⟨#[122]⟩ : ByteArray).size : Nat) : Int) = 1 from rfl, hp, Option.bind_some, if_pos (by show (l ++ [0, 1]).length + 1 < _; simp; omega)]
  show some ((l ++ [0, 1]) ++ bytesOf ⟨#[122]⟩, (0 : Int)) = _
  rw [show bytesOf ⟨#[122]⟩ = [122] from rfl]
  simp
theorem text_V (A0 : Option Addr) (c0 : Nat) (l0 : List Int) (w : World) (hr0 : Kd.C (Kd.int .u8) w A0 l0.length l0) (hc0 : l0.length ≤ c0) (hl : l0.length + 3 < 140737488355328) :
    Calls Try.prog 16 #[.slice A0 l0.length c0, .string ⟨#[122]⟩] w fun e w' => ∃ A c, e = .returned (.tuple #[.slice A (l0 ++ [0, 1, 122]).length c, .int .i64 0]) ∧ Kd.V (Kd.int .u8) 5 w' 0 (fun k => w.heap.size ≤ k) (.slice A (l0 ++ [0, 1, 122]).length c) (l0 ++ [0, 1, 122]) ∧ Below w.heap.size w w' := by
  refine (octet_Text.calls 9 A0 c0 l0 ⟨#[122]⟩ _ 0 w hr0 hc0 (text_z l0 hl)).mono ?_
  rintro e w' ⟨v, rfl, hv, hb⟩
  obtain ⟨A, c, rfl, hc, hF⟩ := hv
  exact ⟨A, c, rfl, Kd.V_mk (e := 5) (base := 0) hc hF, hb⟩
theorem beN_bd (v : Int) : ∀ (d : Nat) (y : Int), y ∈ beN d v → 0 ≤ y ∧ y ≤ 255
  | 0, y, h => by simp [beN] at h
  | d + 1, y, h => by
    rcases List.mem_cons.1 h with rfl | h
    · omega
    · exact beN_bd v d y h
theorem Ow.lt {g : Nat} {r : List Int} {W : World} (h : Ow g r W) : g < W.heap.size := by
  obtain ⟨arr, h1, _⟩ := h
  exact blk_lt h1
theorem Ow.at_ {g : Nat} {r : List Int} {W : World} (h : Ow g r W) (i : Int) (h0 : 0 ≤ i) (h1 : i < (r.length : Int)) : W.cell? ⟨g, i.toNat, none⟩ = some (.int .u8 (rd r i)) ∧ W.frozen? ⟨g, i.toNat, none⟩ = false := by
  obtain ⟨arr, ha, h2, h3⟩ := h
  refine ⟨?_, blk_frozen ha _⟩
  rw [blk_cell ha]
  have hlt : i.toNat < r.length := by omega
  have : (arr.toList.take r.length)[i.toNat]? = (nums .u8 r)[i.toNat]? := by rw [h3]
  rw [List.getElem?_take, if_pos hlt] at this
  simpa [nums, rd, hlt, List.getD_eq_getElem?_getD] using this
theorem Ow.put {g : Nat} {r : List Int} {W : World} (h : Ow g r W) (i : Nat) (v : Int) : Ow g (r.set i v) (W.setCell ⟨g, i, none⟩ (.int .u8 v)) := by
  obtain ⟨arr, ha, h2, h3⟩ := h
  refine ⟨_, blk_put ha i _ rfl, by simpa using h2, ?_⟩
  rw [List.length_set]
  have : nums .u8 (r.set i v) = (nums .u8 r).set i (.int .u8 v) := by simp [nums, List.map_set]
  rw [this, ← h3, Array.toList_setIfInBounds, List.take_set]
theorem V_puts2 {p : Nat} {ok : Nat → Prop} {w W : World} {v : Value} {xs : List Int} (h : Kd.V (Kd.int .u8) 5 w 0 ok v xs) (hok : ∀ k, ok k → k ≠ p) (hp : Puts p w W) : Kd.V (Kd.int .u8) 5 W 0 ok v xs := by
  obtain ⟨A, c, rfl, hc, hF⟩ := h
  exact Kd.V_mk hc (Foot.step hF (fun k hk hlt => (hp 0 (Nat.zero_le _)).2.2 k (hok k hk)))
theorem V_none (W : World) (ok : Nat → Prop) (A : Option Addr) (c : Nat) : Kd.V (Kd.int .u8) 5 W 0 ok (.slice A ([] : List Int).length c) [] :=
  Kd.V_mk (Nat.zero_le _) (fun _ _ => ⟨rfl, by simp, fun h => absurd h (by simp)⟩)
theorem int_at {base p : Nat} {xs : List Int} (W : World) (h : Rdr base p xs false W) (h8 : 8 ≤ xs.length) : Calls Try.prog 25 #[.pointer (some ⟨p, 0, none⟩)] W fun e W' => ∃ v, e = .returned (.int .i64 v) ∧ beN 8 v = xs.take 8 ∧ Rdr base p (xs.drop 8) false W' ∧ Puts p W W' := by
  have := int_f (base := base) (p := p) (xs, false) W h
  rw [show rInt (xs, false) = (numS (xs.take 8) 0, (xs.drop 8, false)) by unfold rInt; rw [if_neg (by simp; omega)]] at this
  exact this.mono (fun e W' ⟨h1, h2, h3⟩ => ⟨_, h1, be_num _ (fun y hy => h.by_ y (List.mem_of_mem_take hy)) (by rw [List.length_take]; omega), h2, h3⟩)
theorem ref_shift (v : Int) (d : Nat) (h : d < 8) : shr .u64 (IntKind.u64.wrap v) (IntKind.u64.wrap (wrap64 (8 * (((d + 1 : Nat) : Int) - 1)))) % 256 = v / 2 ^ (8 * d) % 256 := by
  have e1 : IntKind.u64.wrap (wrap64 (8 * (((d + 1 : Nat) : Int) - 1))) = ((8 * d : Nat) : Int) := by rw [show ∀ z, IntKind.u64.wrap z = z % 18446744073709551616 from fun _ => rfl]; unfold wrap64; omega
  rw [e1, show IntKind.u64.wrap v = v % 18446744073709551616 from rfl]
  show (v % 18446744073709551616) / 2 ^ (min ((8 * d : Nat) : Int).toNat 64) % 256 = _
  rw [Int.toNat_natCast, Nat.min_eq_left (by omega)]
  have hd : d = 0 ∨ d = 1 ∨ d = 2 ∨ d = 3 ∨ d = 4 ∨ d = 5 ∨ d = 6 ∨ d = 7 := by omega
  rcases hd with rfl | rfl | rfl | rfl | rfl | rfl | rfl | rfl <;> simp only [Nat.reduceMul, Int.reducePow] <;> omega
theorem ref_run (v : Int) : ∀ (d : Nat) (xs : List Int), d ≤ 8 → xs.length + d < 140737488355328 → prebendref03_Int.l0 (d + 1) v xs ((d : Int) - 1) = some (xs ++ beN d v)
  | 0, xs, _, _ => by
    rw [prebendref03_Int.l0.eq_2, if_neg (by simp)]; simp [beN]
  | d + 1, xs, h, hl => by
    have e1 : IntKind.u64.wrap (wrap64 (8 * (((d + 1 : Nat) : Int) - 1))) = ((8 * d : Nat) : Int) := by rw [show ∀ z, IntKind.u64.wrap z = z % 18446744073709551616 from fun _ => rfl]; unfold wrap64; omega
    have e2 : wrap64 ((((d + 1 : Nat) : Int) - 1) - 1) = (d : Int) - 1 := by unfold wrap64; omega
    rw [prebendref03_Int.l0.eq_2, if_pos (by omega), if_pos (by rw [e1]; omega), if_pos (by omega), ref_shift v d (by omega), e2, ref_run v d _ (by omega) (by simp; omega)]
    simp [beN]
theorem ref_be (l : List Int) (v : Int) (hl : l.length + 8 < 140737488355328) : prebendref03_Int.f 9 l v = some (l ++ beN 8 v) := by
  have h := ref_run v 8 l (by omega) hl
  unfold prebendref03_Int.f
  rw [Option.bind_some, if_pos (by simp; omega)]
  exact h
theorem rdr_lt {base p : Nat} {xs : List Int} {b : Bool} {W : World} (h : Rdr base p xs b W) : p < W.heap.size := by
  obtain ⟨A, c, h1, _⟩ := h.ex
  exact blk_lt h1
structure HoldO (w : World) (ok : Nat → Prop) (vg vx v2 v3 : Value) (gl x t2 t3 : List Int) (W : World) : Prop where
  below : Below w.heap.size w W
  g : Kd.V (Kd.int .u8) 5 W 0 ok vg gl
  x : Kd.V (Kd.int .u8) 5 W 0 ok vx x
  t2 : Kd.V (Kd.int .u8) 5 W 0 ok v2 t2
  t3 : Kd.V (Kd.int .u8) 5 W 0 ok v3 t3
theorem HoldO.go {w : World} {ok : Nat → Prop} {vg vx v2 v3 : Value} {gl x t2 t3 : List Int} {W W1 : World} (h : HoldO w ok vg vx v2 v3 gl x t2 t3 W) (hb : Below W.heap.size W W1) : HoldO w ok vg vx v2 v3 gl x t2 t3 W1 :=
  ⟨below_step h.below hb, Kd.V_below h.g hb, Kd.V_below h.x hb, Kd.V_below h.t2 hb, Kd.V_below h.t3 hb⟩
theorem ref_z (l : List Int) (hl : l.length < 1000000) : prebendref03_Text.f l ⟨#[122]⟩ = some (l ++ [0, 1, 122]) := by
  unfold prebendref03_Text.f
  rw [if_pos ⟨by omega, by decide⟩]
  simp only [show (((⟨#[122]⟩ : ByteArray).size : Nat) : Int) = 1 from rfl, show bytesOf ⟨#[122]⟩ = [122] from rfl]
  simp
def Cv (v : Value) (l : List Int) (W : World) : Prop := (convert 22 9 v).run Try.prog W = .ok (.string (strOfNums l)) W
theorem horner (v : Int) : ∀ (d : Nat) (a : Int), d ≤ 8 → numS (beN d v) a = wrap64 (a * 2 ^ (8 * d) + v % 2 ^ (8 * d)) ∨ d = 0
  | 0, a, _ => .inr rfl
  | d + 1, a, h => by
    refine .inl ?_
    have hc : 0 ≤ v / 2 ^ (8 * d) % 256 ∧ v / 2 ^ (8 * d) % 256 ≤ 255 := by omega
    simp only [beN, numS]
    rw [or_byte _ _ hc.1 (by omega)]
    rcases horner v d (wrap64 (a * 256 + v / 2 ^ (8 * d) % 256)) (by omega) with e | rfl
    · rw [e]
      have hd : d = 0 ∨ d = 1 ∨ d = 2 ∨ d = 3 ∨ d = 4 ∨ d = 5 ∨ d = 6 ∨ d = 7 := by omega
      rcases hd with rfl | rfl | rfl | rfl | rfl | rfl | rfl | rfl <;> simp only [Nat.reduceMul, Nat.reduceAdd, Int.reducePow] <;> unfold wrap64 <;> omega
    · simp only [beN, numS, Nat.reduceMul, Nat.reduceAdd, Int.reducePow]; unfold wrap64; omega
theorem num_be8 (v : Int) (h : -9223372036854775808 ≤ v ∧ v ≤ 9223372036854775807) : numS (beN 8 v) 0 = v := by
  rcases horner v 8 0 (by omega) with e | e
  · rw [e]; simp only [Nat.reduceMul, Int.reducePow]; unfold wrap64; omega
  · cases e
theorem num_be2 (v : Int) (h : 0 ≤ v ∧ v ≤ 65535) : numS (beN 2 v) 0 = v := by
  rcases horner v 2 0 (by omega) with e | e
  · rw [e]; simp only [Nat.reduceMul, Int.reducePow]; unfold wrap64; omega
  · cases e
/-- What stands for a number and a text. -/
def pc (q : Int × ByteArray) : List Int := beN 8 q.1 ++ (beN 2 (q.2.size : Int) ++ bytesOf q.2)
def pcs (l : List (Int × ByteArray)) : List Int := (l.map pc).flatten
theorem pcs_snoc (l : List (Int × ByteArray)) (q : Int × ByteArray) : pcs (l ++ [q]) = pcs l ++ pc q := by simp [pcs]
theorem pcs_cons (l : List (Int × ByteArray)) (q : Int × ByteArray) : pcs (q :: l) = pc q ++ pcs l := by simp [pcs]
def Ok (q : Int × ByteArray) : Prop := (-9223372036854775808 ≤ q.1 ∧ q.1 ≤ 9223372036854775807) ∧ q.2.size ≤ 300
theorem pc_len (q : Int × ByteArray) : (pc q).length = 10 + q.2.size := by simp [pc, beN_len, bytesOf_length]; omega
theorem pcs_len {l : List (Int × ByteArray)} (h : ∀ q ∈ l, Ok q) : (pcs l).length ≤ 310 * l.length := by
  induction l with
  | nil => simp [pcs]
  | cons q l ih =>
    have h1 := ih (fun x hx => h x (List.mem_cons_of_mem _ hx))
    have h2 := (h q (List.mem_cons_self ..)).2
    rw [pcs_cons, List.length_append, pc_len, List.length_cons]; omega
theorem rInt_pc (q : Int × ByteArray) (r : List Int) (h : Ok q) : rInt (pc q ++ r, false) = (q.1, (beN 2 (q.2.size : Int) ++ (bytesOf q.2 ++ r), false)) := by
  have e : pc q ++ r = beN 8 q.1 ++ (beN 2 (q.2.size : Int) ++ (bytesOf q.2 ++ r)) := by simp [pc]
  rw [e]
  unfold rInt
  rw [if_neg (by simp [beN_len])]
  simp only
  rw [List.take_left' (beN_len _ _), List.drop_left' (beN_len _ _), num_be8 _ h.1]
theorem rText_pc (q : Int × ByteArray) (r : List Int) (h : Ok q) : rText (beN 2 (q.2.size : Int) ++ (bytesOf q.2 ++ r), false) 300 = (bytesOf q.2, (r, false)) := by
  have h2 := h.2
  unfold rText
  rw [if_neg (by simp [beN_len])]
  simp only
  rw [List.take_left' (beN_len _ _), List.drop_left' (beN_len _ _), num_be2 _ (by omega), if_neg (by simp [beN_len, bytesOf_length]; omega)]
  simp only [Int.toNat_natCast]
  rw [List.take_left' (bytesOf_length _), List.drop_left' (bytesOf_length _)]
/-- A reader of bytes that are cut off. -/
def CutOk (l : List (Int × ByteArray)) (s : List Int × Bool) : Prop := s.2 = true ∨ ∃ c, c < (pcs l).length ∧ s = ((pcs l).take c, false)
theorem rInt_bad {s : List Int × Bool} (h : s.2 = true) : rInt s = (0, (s.1, true)) := by simp [rInt, h]
theorem rText_bad {s : List Int × Bool} (m : Int) (h : s.2 = true) : rText s m = ([], (s.1, true)) := by simp [rText, h]
theorem CutOk.step {q : Int × ByteArray} {l : List (Int × ByteArray)} {s : List Int × Bool} (h : CutOk (q :: l) s) (hq : Ok q) : CutOk l (rText (rInt s).2 300).2 := by
  have hq2 := hq.2
  rcases h with h | ⟨c, hc, rfl⟩
  · rw [rInt_bad h, rText_bad _ rfl]; exact .inl rfl
  · rw [pcs_cons, List.length_append, pc_len] at hc
    have e : pcs (q :: l) = beN 8 q.1 ++ (beN 2 (q.2.size : Int) ++ (bytesOf q.2 ++ pcs l)) := by simp [pcs_cons, pc]
    rw [e]
    by_cases h8 : c < 8
    · have : rInt ((beN 8 q.1 ++ (beN 2 (q.2.size : Int) ++ (bytesOf q.2 ++ pcs l))).take c, false) = (0, ((beN 8 q.1 ++ (beN 2 (q.2.size : Int) ++ (bytesOf q.2 ++ pcs l))).take c, true)) := by
        unfold rInt; rw [if_pos (by simp [beN_len]; omega)]
      rw [this, rText_bad _ rfl]; exact .inl rfl
    · have e1 : (beN 8 q.1 ++ (beN 2 (q.2.size : Int) ++ (bytesOf q.2 ++ pcs l))).take c = beN 8 q.1 ++ (beN 2 (q.2.size : Int) ++ (bytesOf q.2 ++ pcs l)).take (c - 8) := by
        rw [List.take_append, beN_len, List.take_of_length_le (by rw [beN_len]; omega)]
      have e2 : rInt (beN 8 q.1 ++ (beN 2 (q.2.size : Int) ++ (bytesOf q.2 ++ pcs l)).take (c - 8), false) = (q.1, ((beN 2 (q.2.size : Int) ++ (bytesOf q.2 ++ pcs l)).take (c - 8), false)) := by
        unfold rInt
        rw [if_neg (by simp [beN_len])]
        simp only
        rw [List.take_left' (beN_len _ _), List.drop_left' (beN_len _ _), num_be8 _ hq.1]
      rw [e1, e2]
      simp only
      by_cases h10 : c < 10
      · have : rText ((beN 2 (q.2.size : Int) ++ (bytesOf q.2 ++ pcs l)).take (c - 8), false) 300 = ([], ((beN 2 (q.2.size : Int) ++ (bytesOf q.2 ++ pcs l)).take (c - 8), true)) := by
          unfold rText; rw [if_pos (by simp [beN_len]; omega)]
        rw [this]; exact .inl rfl
      · have e3 : (beN 2 (q.2.size : Int) ++ (bytesOf q.2 ++ pcs l)).take (c - 8) = beN 2 (q.2.size : Int) ++ (bytesOf q.2 ++ pcs l).take (c - 10) := by
          rw [List.take_append, beN_len, List.take_of_length_le (by rw [beN_len]; omega)]; congr 2
        rw [e3]
        unfold rText
        rw [if_neg (by simp [beN_len])]
        simp only
        rw [List.take_left' (beN_len _ _), List.drop_left' (beN_len _ _), num_be2 _ (by omega)]
        by_cases hn : c - 10 < q.2.size
        · rw [if_pos (by simp [beN_len, bytesOf_length]; omega)]; exact .inl rfl
        · rw [if_neg (by simp [beN_len, bytesOf_length]; omega)]
          refine .inr ⟨c - 10 - q.2.size, by omega, ?_⟩
          simp only [Int.toNat_natCast]
          rw [List.take_append, bytesOf_length, List.take_of_length_le (by rw [bytesOf_length]; omega), List.drop_left' (bytesOf_length _)]
theorem text_be (l : List Int) (s : ByteArray) (hs : s.size ≤ 300) (hl : l.length < 1000000) : octet_Text.f 3 l s = some (l ++ (beN 2 (s.size : Int) ++ bytesOf s), 0) := by
  have h1 : slices_Clone_byte.f l = some l := by unfold slices_Clone_byte.f; simp only [Option.bind_some]; rw [if_pos (by simp; omega)]; rfl
  have h2 : slices_Grow_byte.f l 2 = some l := by unfold slices_Grow_byte.f; rw [if_pos (by omega), if_pos (by omega)]
  have e : wrap64 (2 - 1) = ((2 : Nat) : Int) - 1 := by decide +kernel
  have hp : octet_put.f 3 l (s.size : Int) 2 = some (l ++ beN 2 (s.size : Int)) := by
    unfold octet_put.f
    rw [h1, Option.bind_some, h2, Option.bind_some, e]
    exact put_run _ 2 l (by omega) (by omega)
  unfold octet_Text.f
  rw [if_neg (by omega), hp, Option.bind_some, if_pos (by simp [beN_len]; omega)]
  simp [slices_Clip_byte.f]
theorem strOfNums_bytesOf (s : ByteArray) : strOfNums (bytesOf s) = s := by
  unfold strOfNums bytesOf
  rw [List.map_map]
  have : (s.data.toList.map ((fun n : Int => UInt8.ofNat n.toNat) ∘ fun b : UInt8 => (b.toNat : Int))) = s.data.toList := by
    rw [List.map_congr_left (g := id) (fun b _ => by simp [Function.comp])]
    simp
  rw [this]
def mid (q : Int × ByteArray) (r : List Int) : List Int := beN 2 (q.2.size : Int) ++ (bytesOf q.2 ++ r)
theorem rd_pair1 {base p : Nat} {q : Int × ByteArray} {r : List Int} (hq : Ok q) (W : World) (h : Rdr base p (pc q ++ r) false W) : Calls Try.prog 25 #[.pointer (some ⟨p, 0, none⟩)] W fun e W' => e = .returned (.int .i64 q.1) ∧ Rdr base p (mid q r) false W' ∧ Puts p W W' := by
  have := int_f (base := base) (p := p) (pc q ++ r, false) W h
  rw [rInt_pc q r hq] at this
  exact this
theorem rd_pair2 {base p : Nat} {q : Int × ByteArray} {r : List Int} (hq : Ok q) (W : World) (h : Rdr base p (mid q r) false W) : Calls Try.prog 23 #[.pointer (some ⟨p, 0, none⟩), .int .i64 300] W fun e W' => e = .returned (.string q.2) ∧ Rdr base p r false W' ∧ Puts p W W' := by
  have := text_f (base := base) (p := p) (mid q r, false) 300 W h
  rw [mid, rText_pc q r hq] at this
  simp only [strOfNums_bytesOf] at this
  exact this
theorem text_V2 (A0 : Option Addr) (c0 : Nat) (l0 : List Int) (s : ByteArray) (w : World) (hr0 : Kd.C (Kd.int .u8) w A0 l0.length l0) (hc0 : l0.length ≤ c0) (hs : s.size ≤ 300) (hl : l0.length < 1000000) :
    Calls Try.prog 16 #[.slice A0 l0.length c0, .string s] w fun e w' => ∃ A c, e = .returned (.tuple #[.slice A (l0 ++ (beN 2 (s.size : Int) ++ bytesOf s)).length c, .int .i64 0]) ∧ Kd.V (Kd.int .u8) 5 w' 0 (fun k => w.heap.size ≤ k) (.slice A (l0 ++ (beN 2 (s.size : Int) ++ bytesOf s)).length c) (l0 ++ (beN 2 (s.size : Int) ++ bytesOf s)) ∧ Below w.heap.size w w' := by
  refine (octet_Text.calls 3 A0 c0 l0 s _ 0 w hr0 hc0 (text_be l0 s hs hl)).mono ?_
  rintro e w' ⟨v, rfl, hv, hb⟩
  obtain ⟨A, c, rfl, hc, hF⟩ := hv
  exact ⟨A, c, rfl, Kd.V_mk (e := 5) (base := 0) hc hF, hb⟩
theorem end_bad {base p : Nat} {s : List Int × Bool} (W : World) (h : Rdr base p s.1 s.2 W) (hs : s.2 = true) : Calls Try.prog 26 #[.pointer (some ⟨p, 0, none⟩)] W fun e W' => e = .returned (.bool false) ∧ W' = W := by
  have := end_f (base := base) (p := p) s W h
  rwa [show rEnd s = false by simp [rEnd, hs]] at this
theorem int_bad {base p : Nat} {s : List Int × Bool} (W : World) (h : Rdr base p s.1 s.2 W) (hs : s.2 = true) : Calls Try.prog 25 #[.pointer (some ⟨p, 0, none⟩)] W fun e W' => e = .returned (.int .i64 0) ∧ Rdr base p s.1 true W' ∧ Puts p W W' := by
  have := int_f (base := base) (p := p) s W h
  rw [rInt_bad hs] at this
  exact this
theorem text_bad {base p : Nat} {xs : List Int} (m : Int) (W : World) (h : Rdr base p xs true W) : Calls Try.prog 23 #[.pointer (some ⟨p, 0, none⟩), .int .i64 m] W fun e W' => e = .returned (.string ⟨#[]⟩) ∧ Rdr base p xs true W' ∧ Puts p W W' := by
  have := text_f (base := base) (p := p) (xs, true) m W h
  rw [rText_bad m rfl] at this
  exact this
/-- The pairs that were put. -/
structure Got (l0 : List Int) (l1 : List ByteArray) (ps : List (Int × ByteArray)) : Prop where
  ok : ∀ q ∈ ps, Ok q
  n : ps.length ≤ 20
  le0 : ps.length ≤ l0.length
  le1 : ps.length ≤ l1.length
  at_ : ∀ (j : Nat), j < ps.length → ps[j]? = some (rd l0 (j : Int), rdOf ByteArray.empty l1 (j : Int))
theorem Got.snoc {l0 : List Int} {l1 : List ByteArray} {ps : List (Int × ByteArray)} (h : Got l0 l1 ps) {x : Int} (hx : x = (ps.length : Int)) (h0 : x < (l0.length : Int)) (h1 : x < (l1.length : Int)) (h2 : x < 20) (hq : Ok (rd l0 x, rdOf ByteArray.empty l1 x)) : Got l0 l1 (ps ++ [(rd l0 x, rdOf ByteArray.empty l1 x)]) := by
  subst hx
  refine ⟨fun q hm => ?_, by rw [List.length_append, List.length_singleton]; omega, by rw [List.length_append, List.length_singleton]; omega, by rw [List.length_append, List.length_singleton]; omega, fun j hj => ?_⟩
  · rcases List.mem_append.1 hm with hm | hm
    · exact h.ok q hm
    · rw [List.mem_singleton.1 hm]; exact hq
  · rcases Nat.lt_or_ge j ps.length with hl | hl
    · rw [List.getElem?_append_left hl]; exact h.at_ j hl
    · rw [List.length_append, List.length_singleton] at hj
      obtain rfl : j = ps.length := by omega
      simp
theorem Got.drop {l0 : List Int} {l1 : List ByteArray} {ps : List (Int × ByteArray)} (h : Got l0 l1 ps) {x : Int} (h0 : 0 ≤ x) (hx : x < (ps.length : Int)) : ps.drop x.toNat = (rd l0 x, rdOf ByteArray.empty l1 x) :: ps.drop (x + 1).toNat := by
  have hl : x.toNat < ps.length := by omega
  have := h.at_ x.toNat hl
  rw [List.drop_eq_getElem_cons hl]
  rw [List.getElem?_eq_getElem hl, Int.toNat_of_nonneg h0] at this
  rw [Option.some.inj this, show (x + 1).toNat = x.toNat + 1 by omega]
theorem Got.okx {l0 : List Int} {l1 : List ByteArray} {ps : List (Int × ByteArray)} (h : Got l0 l1 ps) {x : Int} (h0 : 0 ≤ x) (hx : x < (ps.length : Int)) : Ok (rd l0 x, rdOf ByteArray.empty l1 x) := by
  have : (rd l0 x, rdOf ByteArray.empty l1 x) ∈ ps.drop x.toNat := by rw [h.drop h0 hx]; exact List.mem_cons_self ..
  exact h.ok _ (List.mem_of_mem_drop this)
theorem rd_wf {l : List Int} (h : ∀ x ∈ l, (Lit.int .i64 x).wf = true) (i : Int) : -9223372036854775808 ≤ rd l i ∧ rd l i ≤ 9223372036854775807 := by
  by_cases hi : i.toNat < l.length
  · have := h (rd l i) (by simp [rd, List.getD_eq_getElem?_getD, hi])
    simpa [Lit.wf, IntKind.min, IntKind.max, IntKind.signed, IntKind.bits] using this
  · have : rd l i = 0 := by simp [rd, List.getD_eq_getElem?_getD, List.getElem?_eq_none (show l.length ≤ i.toNat by omega)]
    omega
theorem pcs_bd {ps : List (Int × ByteArray)} : ∀ x ∈ pcs ps, 0 ≤ x ∧ x ≤ 255 := by
  intro x hx
  simp only [pcs, List.mem_flatten, List.mem_map] at hx
  obtain ⟨l, ⟨q, _, rfl⟩, hx⟩ := hx
  simp only [pc, List.mem_append] at hx
  rcases hx with h | h | h
  · exact beN_bd _ _ x h
  · exact beN_bd _ _ x h
  · obtain ⟨b, _, rfl⟩ := List.mem_map.1 h
    have := UInt8.toNat_lt b
    omega
theorem end_good {base p : Nat} (W : World) (h : Rdr base p [] false W) : Calls Try.prog 26 #[.pointer (some ⟨p, 0, none⟩)] W fun e W' => e = .returned (.bool true) ∧ W' = W :=
  end_f (base := base) (p := p) ([], false) W h
theorem pcs_nil : pcs [] = [] := rfl
theorem CutOk.nil {s : List Int × Bool} (h : CutOk [] s) : s.2 = true := by
  rcases h with h | ⟨c, hc, _⟩
  · exact h
  · simp [pcs] at hc
theorem pcs_pos {ps : List (Int × ByteArray)} (h : ps.length ≠ 0) : 0 < (pcs ps).length := by
  cases ps with
  | nil => simp at h
  | cons q l => rw [pcs_cons, List.length_append, pc_len]; omega
end BackB
open BackB
def OctetBack.T5 : Bool × List (List Nat × List Nat) := (true, [([], []), ([], []), ([], []), ([1, 2], [1, 2]), ([3], [3]), ([0, 4], [0, 4]), ([], []), ([], []), ([6, 7], [6, 7]), ([8], [8]), ([5, 9, 5], [5, 9]), ([10], [10]), ([11], [11]), ([11], [11]), ([12, 10, 0, 1, 2, 3, 4, 5, 6, 7, 8, 9, 10, 11, 12], [12]), ([13, 14, 0, 1, 2, 3, 4, 5, 6, 7, 8, 9, 10, 11, 12, 13, 14], [13])])
def OctetBack.B5 : List Nat := [0, 0, 0, 6, 14, 31, 0, 0, 192, 448, 1023, 2047, 4095, 4095, 8191, 32767]
theorem OctetBack.tab5 : rtab .any (opsOf Try.f5 5) = OctetBack.T5 := by kernel_rfl
theorem OctetBack.bits5 : waitsOk OctetBack.T5.2 OctetBack.B5 = true := by kernel_rfl
def OctetBack.T14 : Bool × List (List Nat × List Nat) := (true, [([], []), ([0], [0]), ([], []), ([], []), ([2, 3], [2, 3]), ([4], [4]), ([1, 5], [1, 5]), ([6, 1], [6]), ([7], [7]), ([8, 7, 7], [7, 8]), ([7], [7]), ([7], [7]), ([10, 11, 7], [7, 10, 11]), ([12, 7], [7, 12]), ([9, 13, 7], [7, 9, 13]), ([7, 14], [7, 14])])
def OctetBack.B14 : List Nat := [0, 1, 0, 0, 12, 28, 63, 127, 255, 511, 255, 255, 3327, 7423, 16383, 32767]
theorem OctetBack.tab14 : rtab .any (opsOf Try.f5 14) = OctetBack.T14 := by kernel_rfl
theorem OctetBack.bits14 : waitsOk OctetBack.T14.2 OctetBack.B14 = true := by kernel_rfl
set_option maxHeartbeats 8000000 in
set_option maxRecDepth 100000 in
theorem prebendlaw03_OctetBack.walk (P : prebendlaw03_OctetBack.Pure) (A0 : Option Addr) (c0 : Nat) (l0 : List Int) (A1 : Option Addr) (c1 : Nat) (l1 : List ByteArray) (a2 : Int) (w : World) (hr0 : Kd.C (Kd.int .i64) w A0 l0.length l0) (hc0 : l0.length ≤ c0) (hr1 : Kd.C Kd.string w A1 l1.length l1) (hc1 : l1.length ≤ c1) (g0 : l0.length ≤ maxLen ∧ ∀ x ∈ l0, (Lit.int .i64 x).wf = true) (y0 : l0.length * 8 ≤ 140737488351232) (g1 : l1.length ≤ maxLen ∧ ∀ x ∈ l1, x.size ≤ maxLen) (w2_ : (Lit.int .u16 a2).wf = true) :
    Calls Try.prog 5 #[.slice A0 l0.length c0, .slice A1 l1.length c1, .int .u16 a2] w fun e w' => e = .returned (.bool true) ∧ Below w.heap.size w w' := by
  have hwf : Aside0 (∀ i : Int, -9223372036854775808 ≤ rd l0 i ∧ rd l0 i ≤ 9223372036854775807) := ⟨fun i => rd_wf g0.2 i⟩
  have ha2 : Aside0 (0 ≤ a2 ∧ a2 ≤ 65535) := ⟨by simpa [Lit.wf, IntKind.min, IntKind.max, IntKind.signed, IntKind.bits] using w2_⟩
  have hl0 : Aside0 (l0.length ≤ 9223372036854775807 ∧ l1.length ≤ 9223372036854775807) := ⟨by have h0 := g0.1; have h1 := g1.1; unfold maxLen at h0 h1; omega⟩
  have HR0 := Aside0.mk hr0
  have HR1 := Aside0.mk hr1
  have HB := Aside0.mk (Below.refl w.heap.size w)
  clear hr0 hc0 hr1 hc1 g0 y0 g1 w2_ P
  go_enter Try.func5, Try.ntmps5
  go_upto_block 0 with fail
  go_cut [7, 8] (fun v7 v8 wc => ∃ (x8 : Int) (A : Option Addr) (c : Nat) (b : List Int) (ps : List (Int × ByteArray)), v7 = .slice A b.length c ∧ v8 = .int .i64 x8 ∧ Aside0 (x8 = (ps.length : Int) ∧ b = pcs ps) ∧ Aside0 (Got l0 l1 ps) ∧ Aside0 (Kd.V (Kd.int .u8) 5 wc 0 (fun _ => True) (.slice A b.length c) b) ∧ Aside0 (Below w.heap.size w wc))
  case first =>
    go_wp2_with fail
    go_loopg [7, 8] 20 (fun kq v7 v8 w' => ∃ (x8 : Int) (A : Option Addr) (c : Nat) (b : List Int) (ps : List (Int × ByteArray)), v7 = .slice A b.length c ∧ v8 = .int .i64 x8 ∧ Aside0 (x8 + kq = 20) ∧ Aside0 (x8 = (ps.length : Int) ∧ b = pcs ps) ∧ Aside0 (Got l0 l1 ps) ∧ Aside0 (Kd.V (Kd.int .u8) 5 w' 0 (fun _ => True) (.slice A b.length c) b) ∧ Aside0 (Below w.heap.size w w'))
    case atStart => exact ⟨0, _, _, [], [], rfl, rfl, ⟨rfl⟩, ⟨⟨rfl, rfl⟩⟩, ⟨⟨fun q h => by simp at h, by simp, by simp, by simp, fun j h => by simp at h⟩⟩, ⟨V_none _ _ _ _⟩, ⟨below_alloc HB.out _⟩⟩
    case round =>
      obtain ⟨x8, A, c, b, ps, rfl, rfl, HK, HX, HG, HV, HB2⟩ := hrel
      clear HB
      have hx0 : 0 ≤ x8 := by have := HX.out.1; omega
      by_cases d1 : x8 < (l0.length : Int)
      · have d1b : decide (x8 < (l0.length : Int)) = true := decide_eq_true d1
        by_cases d2 : x8 < (l1.length : Int)
        · have d2b : decide (x8 < (l1.length : Int)) = true := decide_eq_true d2
          by_cases d3 : x8 < 20
          · have d3b : decide (x8 < 20) = true := decide_eq_true d3
            obtain ⟨k1, rfl⟩ : ∃ k1, gk = k1 + 1 := ⟨gk - 1, by have := HK.out; omega⟩
            obtain ⟨ad0, ead0, hn0⟩ := Kd.at_int HR0.out x8 hx0 d1
            cases ead0
            obtain ⟨ad1, ead1, ht0⟩ := Kd.at_string HR1.out x8 hx0 d2
            cases ead1
            obtain ⟨n, hn⟩ : ∃ n, rd l0 x8 = n := ⟨_, rfl⟩
            obtain ⟨s, hs⟩ : ∃ s, rdOf ByteArray.empty l1 x8 = s := ⟨_, rfl⟩
            rw [hn] at hn0
            rw [hs] at ht0
            have hn1 := (HB2.out.cell (World.block_lt_of_cell? w _ hn0)).trans hn0
            have ht1 := (HB2.out.cell (World.block_lt_of_cell? w _ ht0)).trans ht0
            have HNN := Aside0.mk (And.intro hn hs)
            have HC := Aside0.mk (And.intro hn0 ht0)
            have HD := Aside0.mk (And.intro hx0 (And.intro d1 (And.intro d2 d3)))
            have p1 := eq_true hx0
            have q1 := eq_true d1
            have q2 := eq_true d2
            clear hx0 d1 d2 d3 hn hs hn0 ht0
            by_cases d4 : (s.size : Int) > 300
            · have d4b : decide (300 < (s.size : Int)) = true := decide_eq_true d4
              have d4c : decide (300 < s.size) = true := decide_eq_true (by omega)
              clear d4
              go_wp2
              go_meet
              case rel => exact ⟨x8, _, _, b, ps, rfl, rfl, HX, HG, HV, HB2⟩
            · have d4b : decide (300 < (s.size : Int)) = false := decide_eq_false d4
              have d4c : decide (300 < s.size) = false := decide_eq_false (by omega)
              have HS : Aside0 (s.size ≤ 300) := ⟨by omega⟩
              clear d4
              have hok : Ok (n, s) := ⟨by have := hwf.out x8; rw [HNN.out.1] at this; exact this, HS.out⟩
              have hlen : b.length ≤ 6200 := by have h1 := pcs_len HG.out.ok; have h2 := HG.out.n; rw [HX.out.2]; omega
              obtain ⟨b1, hb1⟩ : ∃ b1, b ++ beN 8 n = b1 := ⟨_, rfl⟩
              obtain ⟨b2, hb2⟩ : ∃ b2, b1 ++ (beN 2 (s.size : Int) ++ bytesOf s) = b2 := ⟨_, rfl⟩
              have HB22 : Aside0 (b2 = pcs (ps ++ [(n, s)])) := ⟨by rw [← hb2, ← hb1, pcs_snoc, HX.out.2]; simp [pc]⟩
              have HOK := Aside0.mk hok
              have K1 : Aside0 (∀ (W : World), Kd.V (Kd.int .u8) 5 W 0 (fun _ => True) (.slice A b.length c) b → Calls Try.prog 18 #[.slice A b.length c, .int .i64 n] W fun e w' => ∃ A c, e = .returned (.slice A b1.length c) ∧ Kd.V (Kd.int .u8) 5 w' 0 (fun k => W.heap.size ≤ k) (.slice A b1.length c) b1 ∧ Below W.heap.size W w') := ⟨fun W h => by rw [← hb1]; exact int_V A c b n W (Kd.V_reads' h).2.2 (Kd.V_reads' h).2.1 (by omega)⟩
              have K2 : Aside0 (∀ (W : World) (A : Option Addr) (c : Nat), Kd.V (Kd.int .u8) 5 W 0 (fun _ => True) (.slice A b1.length c) b1 → Calls Try.prog 16 #[.slice A b1.length c, .string s] W fun e w' => ∃ A c, e = .returned (.tuple #[.slice A b2.length c, .int .i64 0]) ∧ Kd.V (Kd.int .u8) 5 w' 0 (fun k => W.heap.size ≤ k) (.slice A b2.length c) b2 ∧ Below W.heap.size W w') := ⟨fun W A c h => by rw [← hb2]; exact text_V2 A c b1 s W (Kd.V_reads' h).2.2 (Kd.V_reads' h).2.1 HS.out (by rw [← hb1]; simp [beN_len]; omega)⟩
              clear hok hlen hb1 hb2
              go_upto_region 5 with (fail)
              refine start_ (n := 16) (S := fun w' => w'.cell? (ad0.add x8.toNat) = some (.int .i64 n) ∧ w'.cell? (ad1.add x8.toNat) = some (.string s)) (ds := []) #[false, false, false, false, false, false, false, false, false, false, false, false, false, false, false, false] (by kernel_rfl) rfl rfl (by have n_ := Aside0.mk (below_step HB2.out (below_drew (Below.refl _ _))); exact ⟨(n_.out.cell (World.block_lt_of_cell? w _ HC.out.1)).trans HC.out.1, (n_.out.cell (World.block_lt_of_cell? w _ HC.out.2)).trans HC.out.2⟩) (fun hHeld => ?_); refine with_tabW OctetBack.tab5 OctetBack.bits5 (fun HT_ HW_ => ?_)
              have n1_ := Aside0.mk (below_step HB2.out (below_drew (Below.refl _ _)))
              have n2_ := Aside0.mk (Kd.V_below HV.out (below_drew (Below.refl _ _)))
              clear HB2 HV
              have HB2 := n1_
              have HV := n2_
              clear n1_ n2_
              generalize wr.drew = wz at HB2 HV hHeld ⊢
              refine pure_ (i := 0) (N := some 37) (v := ?_) (a' := ?_) #[true, false, false, false, false, false, false, false, false, false, false, false, false, false, false, false] rfl rfl (any_of HT_.out (by kernel_rfl)) (fun _ _ _ h => h) (Or.inl ⟨by rfl, ?_⟩) ?_ ?_
              rotate_left
              · intro w'
                go_simp
                with_reducible rfl
              rotate_left
              · simp only [Act.put, List.setIfInBounds_toArray, List.set_cons_zero, List.set_cons_succ, i64_w, i32_w]
                rfl
              refine pure_ (i := 1) (N := some 38) (v := ?_) (a' := ?_) #[true, true, false, false, false, false, false, false, false, false, false, false, false, false, false, false] rfl rfl (any_of HT_.out (by kernel_rfl)) (fun _ _ _ h => h) (Or.inl ⟨by rfl, ?_⟩) ?_ ?_
              rotate_left
              · intro w'
                go_simp
                with_reducible rfl
              rotate_left
              · simp only [Act.put, List.setIfInBounds_toArray, List.set_cons_zero, List.set_cons_succ, i64_w, i32_w]
                rfl
              refine pure_ (i := 2) (N := some 39) (v := ?_) (a' := ?_) #[true, true, true, false, false, false, false, false, false, false, false, false, false, false, false, false] rfl rfl (any_of HT_.out (by kernel_rfl)) (fun _ _ _ h => h) (Or.inl ⟨by rfl, ?_⟩) ?_ ?_
              rotate_left
              · intro w'
                go_simp
                with_reducible rfl
              rotate_left
              · simp only [Act.put, List.setIfInBounds_toArray, List.set_cons_zero, List.set_cons_succ, i64_w, i32_w]
                rfl
              refine pure_ (i := 3) (N := some 40) (v := ?_) (a' := ?_) #[true, true, true, true, false, false, false, false, false, false, false, false, false, false, false, false] rfl rfl (any_of HT_.out (by kernel_rfl)) (fun _ _ _ h => h) (Or.inl ⟨by rfl, ?_⟩) ?_ ?_
              rotate_left
              · intro w'
                go_simp
                with_reducible rfl
              rotate_left
              · simp only [Act.put, List.setIfInBounds_toArray, List.set_cons_zero, List.set_cons_succ, i64_w, i32_w]
                rfl
              refine take_ (i := 4) (N := some 41) (v := ?_) (a' := ?_) #[true, true, true, true, true, false, false, false, false, false, false, false, false, false, false, false] rfl rfl (take_ofW HT_.out HW_.out (by kernel_rfl)) (fun _ _ _ h => h) (Or.inl ⟨by rfl, ?_⟩) hHeld ?_ ?_
              rotate_left
              · rintro w' hs_
                obtain ⟨s0, s1⟩ := hs_
                go_simp
                with_reducible rfl
              rotate_left
              · simp only [Act.put, List.setIfInBounds_toArray, List.set_cons_zero, List.set_cons_succ, i64_w, i32_w]
                rfl
              refine pure_ (i := 6) (N := some 43) (v := ?_) (a' := ?_) #[true, true, true, true, true, false, true, false, false, false, false, false, false, false, false, false] rfl rfl (any_of HT_.out (by kernel_rfl)) (fun _ _ _ h => h) (Or.inl ⟨by rfl, ?_⟩) ?_ ?_
              rotate_left
              · intro w'
                go_simp
                with_reducible rfl
              rotate_left
              · simp only [Act.put, List.setIfInBounds_toArray, List.set_cons_zero, List.set_cons_succ, i64_w, i32_w]
                rfl
              refine pure_ (i := 7) (N := some 44) (v := ?_) (a' := ?_) #[true, true, true, true, true, false, true, true, false, false, false, false, false, false, false, false] rfl rfl (any_of HT_.out (by kernel_rfl)) (fun _ _ _ h => h) (Or.inl ⟨by rfl, ?_⟩) ?_ ?_
              rotate_left
              · intro w'
                go_simp
                with_reducible rfl
              rotate_left
              · simp only [Act.put, List.setIfInBounds_toArray, List.set_cons_zero, List.set_cons_succ, i64_w, i32_w]
                rfl
              refine pure_ (i := 8) (N := some 45) (v := ?_) (a' := ?_) #[true, true, true, true, true, false, true, true, true, false, false, false, false, false, false, false] rfl rfl (any_of HT_.out (by kernel_rfl)) (fun _ _ _ h => h) (Or.inl ⟨by rfl, ?_⟩) ?_ ?_
              rotate_left
              · intro w'
                go_simp
                with_reducible rfl
              rotate_left
              · simp only [Act.put, List.setIfInBounds_toArray, List.set_cons_zero, List.set_cons_succ, i64_w, i32_w]
                rfl
              refine take_ (i := 9) (N := some 46) (v := ?_) (a' := ?_) #[true, true, true, true, true, false, true, true, true, true, false, false, false, false, false, false] rfl rfl (take_ofW HT_.out HW_.out (by kernel_rfl)) (fun _ _ _ h => h) (Or.inl ⟨by rfl, ?_⟩) hHeld ?_ ?_
              rotate_left
              · rintro w' hs_
                obtain ⟨s0, s1⟩ := hs_
                go_simp
                with_reducible rfl
              rotate_left
              · simp only [Act.put, List.setIfInBounds_toArray, List.set_cons_zero, List.set_cons_succ, i64_w, i32_w]
                rfl
              refine one_ (i := 5) (N := some 42) #[true, true, true, true, true, true, true, true, true, true, false, false, false, false, false, false] rfl rfl (one_of HT_.out (by kernel_rfl)) (by decide) (fun K hK => ?_)
              refine goes_ Try.func18 (by kernel_rfl) rfl #[.slice A b.length c, .int .i64 n] (by rfl) rfl rfl (by (try simp only [List.map_toArray, List.map_cons, List.map_nil]); first | done | rfl | (simp only [List.length_drop, List.length_take]; rfl)) ?_
              with_reducible refine (K1.out _ HV.out).mono ?_
              rintro e wq1 ⟨A3, c3, rfl, hv, hb⟩; have n_ := Aside0.mk (below_step HB2.out hb); have HV3 := Aside0.mk (Kd.V_mono (ok' := fun _ => True) hv (fun _ _ => trivial)); clear HB2 HV; have HB2 := n_; clear n_ hb hv
              refine ⟨_, rfl, ?_⟩
              refine hK.out _ _ ⟨(HB2.out.cell (World.block_lt_of_cell? w _ HC.out.1)).trans HC.out.1, (HB2.out.cell (World.block_lt_of_cell? w _ HC.out.2)).trans HC.out.2⟩ (fun hHeld => ?_)
              clear hK K
              refine norm_ (a' := ?_) ?_ ?_
              rotate_left
              · show Act.put _ (some 42) _ = _
                simp only [Act.put, List.setIfInBounds_toArray, List.set_cons_zero, List.set_cons_succ, i64_w, i32_w]
                rfl
              refine one_ (i := 10) (N := some 47) #[true, true, true, true, true, true, true, true, true, true, true, false, false, false, false, false] rfl rfl (one_of HT_.out (by kernel_rfl)) (by decide) (fun K hK => ?_)
              refine goes_ Try.func16 (by kernel_rfl) rfl #[.slice A3 b1.length c3, .string s] (by rfl) rfl rfl (by (try simp only [List.map_toArray, List.map_cons, List.map_nil]); first | done | rfl | (simp only [List.length_drop, List.length_take]; rfl)) ?_
              with_reducible refine (K2.out _ _ _ HV3.out).mono ?_
              rintro e wq2 ⟨A4, c4, rfl, hv, hb⟩; have n_ := Aside0.mk (below_step HB2.out hb); have HV4 := Aside0.mk (Kd.V_mono (ok' := fun _ => True) hv (fun _ _ => trivial)); clear HB2 HV3; have HB2 := n_; clear n_ hb hv
              refine ⟨_, rfl, ?_⟩
              refine hK.out _ _ ⟨(HB2.out.cell (World.block_lt_of_cell? w _ HC.out.1)).trans HC.out.1, (HB2.out.cell (World.block_lt_of_cell? w _ HC.out.2)).trans HC.out.2⟩ (fun hHeld => ?_)
              clear hK K
              refine norm_ (a' := ?_) ?_ ?_
              rotate_left
              · show Act.put _ (some 47) _ = _
                simp only [Act.put, List.setIfInBounds_toArray, List.set_cons_zero, List.set_cons_succ, i64_w, i32_w]
                rfl
              refine pure_ (i := 11) (N := some 36) (v := ?_) (a' := ?_) #[true, true, true, true, true, true, true, true, true, true, true, true, false, false, false, false] rfl rfl (any_of HT_.out (by kernel_rfl)) (fun _ _ _ h => h) (Or.inl ⟨by rfl, ?_⟩) ?_ ?_
              rotate_left
              · intro w'
                go_simp
                with_reducible rfl
              rotate_left
              · simp only [Act.put, List.setIfInBounds_toArray, List.set_cons_zero, List.set_cons_succ, i64_w, i32_w]
                rfl
              refine pure_ (i := 12) (N := some 48) (v := ?_) (a' := ?_) #[true, true, true, true, true, true, true, true, true, true, true, true, true, false, false, false] rfl rfl (any_of HT_.out (by kernel_rfl)) (fun _ _ _ h => h) (Or.inl ⟨by rfl, ?_⟩) ?_ ?_
              rotate_left
              · intro w'
                go_simp
                with_reducible rfl
              rotate_left
              · simp only [Act.put, List.setIfInBounds_toArray, List.set_cons_zero, List.set_cons_succ, i64_w, i32_w]
                rfl
              refine pure_ (i := 13) (N := some 49) (v := ?_) (a' := ?_) #[true, true, true, true, true, true, true, true, true, true, true, true, true, true, false, false] rfl rfl (any_of HT_.out (by kernel_rfl)) (fun _ _ _ h => h) (Or.inl ⟨by rfl, ?_⟩) ?_ ?_
              rotate_left
              · intro w'
                go_simp
                with_reducible rfl
              rotate_left
              · simp only [Act.put, List.setIfInBounds_toArray, List.set_cons_zero, List.set_cons_succ, i64_w, i32_w]
                rfl
              refine pure_ (i := 14) (N := some 9) (v := ?_) (a' := ?_) #[true, true, true, true, true, true, true, true, true, true, true, true, true, true, true, false] rfl rfl (any_of HT_.out (by kernel_rfl)) (fun _ _ _ h => h) (Or.inl ⟨by rfl, ?_⟩) ?_ ?_
              rotate_left
              · intro w'
                go_simp
                with_reducible rfl
              rotate_left
              · simp only [Act.put, List.setIfInBounds_toArray, List.set_cons_zero, List.set_cons_succ, i64_w, i32_w]
                rfl
              refine pure_ (i := 15) (N := some 10) (v := ?_) (a' := ?_) #[true, true, true, true, true, true, true, true, true, true, true, true, true, true, true, true] rfl rfl (any_of HT_.out (by kernel_rfl)) (fun _ _ _ h => h) (Or.inl ⟨by rfl, ?_⟩) ?_ ?_
              rotate_left
              · intro w'
                go_simp
                with_reducible rfl
              rotate_left
              · simp only [Act.put, List.setIfInBounds_toArray, List.set_cons_zero, List.set_cons_succ, i64_w, i32_w]
                rfl
              refine done_ (done_of HT_.out (by kernel_rfl)) ?_
              try go_wp2
              go_roundg k1
              case measure => omega
              case rel => exact ⟨x8 + 1, A4, c4, b2, ps ++ [(n, s)], rfl, by rw [show wrap64 (x8 + 1) = x8 + 1 by have := HD.out; unfold wrap64; omega], ⟨by have := HK.out; omega⟩, ⟨⟨by have := HX.out.1; simp; omega, HB22.out⟩⟩, ⟨by have := HG.out.snoc HX.out.1 HD.out.2.1 HD.out.2.2.1 HD.out.2.2.2 (by rw [HNN.out.1, HNN.out.2]; exact HOK.out); rwa [HNN.out.1, HNN.out.2] at this⟩, HV4, HB2⟩
          · have d3b : decide (x8 < 20) = false := decide_eq_false d3
            clear d1 d2 d3
            go_wp2
            go_meet
            case rel => exact ⟨x8, _, _, b, ps, rfl, rfl, HX, HG, HV, HB2⟩
        · have d2b : decide (x8 < (l1.length : Int)) = false := decide_eq_false d2
          clear d1 d2
          go_wp2
          go_meet
          case rel => exact ⟨x8, _, _, b, ps, rfl, rfl, HX, HG, HV, HB2⟩
      · have d1b : decide (x8 < (l0.length : Int)) = false := decide_eq_false d1
        clear d1
        go_wp2
        go_meet
        case rel => exact ⟨x8, _, _, b, ps, rfl, rfl, HX, HG, HV, HB2⟩
  case rest =>
    clear HB
    obtain ⟨x8, A, c, b, ps, rfl, rfl, HX, HG, HV, HB⟩ := hcut
    have hbb : Aside0 (∀ y ∈ b, 0 ≤ y ∧ y ≤ 255) := ⟨by rw [HX.out.2]; exact pcs_bd⟩
    have hbl : Aside0 (b.length ≤ 6200) := ⟨by have h1 := pcs_len HG.out.ok; have h2 := HG.out.n; rw [HX.out.2]; omega⟩
    go_wp2_with (first | (go_at_call 21; (with_reducible refine (new_f A c b _ (Kd.V_reads' HV.out).2.2 (Kd.V_reads' HV.out).2.1 hbb.out (by have := hbl.out; omega)).mono ?_); rintro e w2 ⟨p, rfl, hp, hr, hb⟩; have n1_ := Aside0.mk (Kd.V_mono (ok' := fun k => k ≠ p) (Kd.V_below (Kd.V_elderB HV.out p hp) hb) (fun k hk => hk.2)); have HP := Aside0.mk (Nat.le_trans (below_size HB.out) hp); have n2_ := Aside0.mk (below_step HB.out hb); have HRD := Aside0.mk (by rw [HX.out.2] at hr; exact hr : Rdr wc.heap.size p (pcs ps) false w2); clear HV HB; have HV := n1_; have HB := n2_; clear n1_ n2_ hp hr hb))
    go_loopg [12] ps.length (fun kq v12 w' => ∃ x12 : Int, v12 = .int .i64 x12 ∧ Aside0 (0 ≤ x12 ∧ x12 + kq = (ps.length : Int)) ∧ Aside0 (Rdr wc.heap.size p (pcs (ps.drop x12.toNat)) false w') ∧ Aside0 (Kd.V (Kd.int .u8) 5 w' 0 (fun k => k ≠ p) (.slice A b.length c) b) ∧ Aside0 (Below w.heap.size w w'))
    case atStart => exact ⟨0, rfl, ⟨by omega⟩, HRD, HV, HB⟩
    case round =>
      clear HRD HV HB
      obtain ⟨x12, rfl, HK, HRD, HV, HB⟩ := hrel
      have hx0 : 0 ≤ x12 := HK.out.1
      by_cases d1 : x12 < x8
      · have d1b : decide (x12 < x8) = true := decide_eq_true d1
        have hxp : x12 < (ps.length : Int) := by have := HX.out.1; omega
        obtain ⟨k1, rfl⟩ : ∃ k1, gk = k1 + 1 := ⟨gk - 1, by have := HK.out; omega⟩
        have hd1 : x12 < (l0.length : Int) := by have := HG.out.le0; omega
        have hd2 : x12 < (l1.length : Int) := by have := HG.out.le1; omega
        obtain ⟨ad0, ead0, hn0⟩ := Kd.at_int HR0.out x12 hx0 hd1
        cases ead0
        obtain ⟨ad1, ead1, ht0⟩ := Kd.at_string HR1.out x12 hx0 hd2
        cases ead1
        have hok := HG.out.okx hx0 hxp
        have hdr := HG.out.drop hx0 hxp
        obtain ⟨n, hn⟩ : ∃ n, rd l0 x12 = n := ⟨_, rfl⟩
        obtain ⟨s, hs⟩ : ∃ s, rdOf ByteArray.empty l1 x12 = s := ⟨_, rfl⟩
        rw [hn] at hn0
        rw [hs] at ht0
        rw [hn, hs] at hok hdr
        have hn1 := (HB.out.cell (World.block_lt_of_cell? w _ hn0)).trans hn0
        have ht1 := (HB.out.cell (World.block_lt_of_cell? w _ ht0)).trans ht0
        have n1_ : Aside0 (Rdr wc.heap.size p (pc (n, s) ++ pcs (ps.drop (x12 + 1).toNat)) false wr) := ⟨by have := HRD.out; rwa [hdr, pcs_cons] at this⟩
        clear HRD
        have HRD := n1_
        have HC := Aside0.mk (And.intro hn0 ht0)
        have HD := Aside0.mk (And.intro hx0 hd1)
        have HOK := Aside0.mk hok
        have p1 := eq_true hx0
        have q1 := eq_true hd1
        have q2 := eq_true hd2
        clear hx0 d1 hxp hd1 hd2 hn hs hn0 ht0 hok hdr n1_
        go_upto_region 14 with (fail)
        refine start_ (n := 16) (S := fun w' => w'.cell? (ad0.add x12.toNat) = some (.int .i64 n) ∧ w'.cell? (ad1.add x12.toNat) = some (.string s)) (ds := []) #[false, false, false, false, false, false, false, false, false, false, false, false, false, false, false, false] (by kernel_rfl) rfl rfl (by have n_ := Aside0.mk (below_step HB.out (below_drew (Below.refl _ _))); exact ⟨(n_.out.cell (World.block_lt_of_cell? w _ HC.out.1)).trans HC.out.1, (n_.out.cell (World.block_lt_of_cell? w _ HC.out.2)).trans HC.out.2⟩) (fun hHeld => ?_); refine with_tabW OctetBack.tab14 OctetBack.bits14 (fun HT_ HW_ => ?_)
        have n1_ := Aside0.mk (below_step HB.out (below_drew (Below.refl _ _)))
        have n2_ := Aside0.mk (Kd.V_below HV.out (below_drew (Below.refl _ _)))
        have n3_ := Aside0.mk (HRD.out.below (below_drew (Below.refl _ _)))
        clear HB HV HRD
        have HB := n1_
        have HV := n2_
        have HRD := n3_
        clear n1_ n2_ n3_
        generalize wr.drew = wz at HB HV HRD hHeld ⊢
        refine pure_ (i := 0) (N := some 62) (v := ?_) (a' := ?_) #[true, false, false, false, false, false, false, false, false, false, false, false, false, false, false, false] rfl rfl (any_of HT_.out (by kernel_rfl)) (fun _ _ _ h => h) (Or.inl ⟨by rfl, ?_⟩) ?_ ?_
        rotate_left
        · intro w'
          go_simp
          with_reducible rfl
        rotate_left
        · simp only [Act.put, List.setIfInBounds_toArray, List.set_cons_zero, List.set_cons_succ, i64_w, i32_w]
          rfl
        refine pure_ (i := 2) (N := some 64) (v := ?_) (a' := ?_) #[true, false, true, false, false, false, false, false, false, false, false, false, false, false, false, false] rfl rfl (any_of HT_.out (by kernel_rfl)) (fun _ _ _ h => h) (Or.inl ⟨by rfl, ?_⟩) ?_ ?_
        rotate_left
        · intro w'
          go_simp
          with_reducible rfl
        rotate_left
        · simp only [Act.put, List.setIfInBounds_toArray, List.set_cons_zero, List.set_cons_succ, i64_w, i32_w]
          rfl
        refine pure_ (i := 3) (N := some 65) (v := ?_) (a' := ?_) #[true, false, true, true, false, false, false, false, false, false, false, false, false, false, false, false] rfl rfl (any_of HT_.out (by kernel_rfl)) (fun _ _ _ h => h) (Or.inl ⟨by rfl, ?_⟩) ?_ ?_
        rotate_left
        · intro w'
          go_simp
          with_reducible rfl
        rotate_left
        · simp only [Act.put, List.setIfInBounds_toArray, List.set_cons_zero, List.set_cons_succ, i64_w, i32_w]
          rfl
        refine pure_ (i := 4) (N := some 66) (v := ?_) (a' := ?_) #[true, false, true, true, true, false, false, false, false, false, false, false, false, false, false, false] rfl rfl (any_of HT_.out (by kernel_rfl)) (fun _ _ _ h => h) (Or.inl ⟨by rfl, ?_⟩) ?_ ?_
        rotate_left
        · intro w'
          go_simp
          with_reducible rfl
        rotate_left
        · simp only [Act.put, List.setIfInBounds_toArray, List.set_cons_zero, List.set_cons_succ, i64_w, i32_w]
          rfl
        refine take_ (i := 5) (N := some 67) (v := ?_) (a' := ?_) #[true, false, true, true, true, true, false, false, false, false, false, false, false, false, false, false] rfl rfl (take_ofW HT_.out HW_.out (by kernel_rfl)) (fun _ _ _ h => h) (Or.inl ⟨by rfl, ?_⟩) hHeld ?_ ?_
        rotate_left
        · rintro w' hs_
          obtain ⟨s0, s1⟩ := hs_
          go_simp
          with_reducible rfl
        rotate_left
        · simp only [Act.put, List.setIfInBounds_toArray, List.set_cons_zero, List.set_cons_succ, i64_w, i32_w]
          rfl
        refine one_ (i := 1) (N := some 63) #[true, true, true, true, true, true, false, false, false, false, false, false, false, false, false, false] rfl rfl (one_of HT_.out (by kernel_rfl)) (by decide) (fun K hK => ?_)
        refine goes_ Try.func25 (by kernel_rfl) rfl #[.pointer (some ⟨p, 0, none⟩)] (by rfl) rfl rfl (by (try simp only [List.map_toArray, List.map_cons, List.map_nil]); first | done | rfl | (simp only [List.length_drop, List.length_take]; rfl)) ?_
        with_reducible refine (rd_pair1 HOK.out _ HRD.out).mono ?_
        rintro e wq1 ⟨rfl, hr, hp⟩; have n1_ := Aside0.mk (V_puts HV.out hp); have n2_ := Aside0.mk (hp.below HP.out HB.out); clear HB HV HRD; have HB := n2_; have HV := n1_; have HRD := Aside0.mk hr; clear n1_ n2_ hr hp
        refine ⟨_, rfl, ?_⟩
        refine hK.out _ _ ⟨(HB.out.cell (World.block_lt_of_cell? w _ HC.out.1)).trans HC.out.1, (HB.out.cell (World.block_lt_of_cell? w _ HC.out.2)).trans HC.out.2⟩ (fun hHeld => ?_)
        clear hK K
        refine norm_ (a' := ?_) ?_ ?_
        rotate_left
        · show Act.put _ (some 63) _ = _
          simp only [Act.put, List.setIfInBounds_toArray, List.set_cons_zero, List.set_cons_succ, i64_w, i32_w]
          rfl
        refine pure_ (i := 6) (N := some 68) (v := ?_) (a' := ?_) #[true, true, true, true, true, true, true, false, false, false, false, false, false, false, false, false] rfl rfl (any_of HT_.out (by kernel_rfl)) (fun _ _ _ h => h) (Or.inl ⟨by rfl, ?_⟩) ?_ ?_
        rotate_left
        · intro w'
          go_simp
          with_reducible rfl
        rotate_left
        · simp only [Act.put, List.setIfInBounds_toArray, List.set_cons_zero, List.set_cons_succ, i64_w, i32_w]
          rfl
        refine pure_ (i := 7) (N := some 69) (v := ?_) (a' := ?_) #[true, true, true, true, true, true, true, true, false, false, false, false, false, false, false, false] rfl rfl (any_of HT_.out (by kernel_rfl)) (fun _ _ _ h => h) (Or.inl ⟨by rfl, ?_⟩) ?_ ?_
        rotate_left
        · intro w'
          go_simp
          with_reducible rfl
        rotate_left
        · simp only [Act.put, List.setIfInBounds_toArray, List.set_cons_zero, List.set_cons_succ, i64_w, i32_w]
          rfl
        refine pure_ (i := 8) (N := some 70) (v := ?_) (a' := ?_) #[true, true, true, true, true, true, true, true, true, false, false, false, false, false, false, false] rfl rfl (any_of HT_.out (by kernel_rfl)) (fun _ _ _ h => h) (Or.inl ⟨by rfl, ?_⟩) ?_ ?_
        rotate_left
        · intro w'
          go_simp
          with_reducible rfl
        rotate_left
        · simp only [Act.put, List.setIfInBounds_toArray, List.set_cons_zero, List.set_cons_succ, i64_w, i32_w]
          rfl
        refine pure_ (i := 10) (N := some 72) (v := ?_) (a' := ?_) #[true, true, true, true, true, true, true, true, true, false, true, false, false, false, false, false] rfl rfl (any_of HT_.out (by kernel_rfl)) (fun _ _ _ h => h) (Or.inl ⟨by rfl, ?_⟩) ?_ ?_
        rotate_left
        · intro w'
          go_simp
          with_reducible rfl
        rotate_left
        · simp only [Act.put, List.setIfInBounds_toArray, List.set_cons_zero, List.set_cons_succ, i64_w, i32_w]
          rfl
        refine pure_ (i := 11) (N := some 73) (v := ?_) (a' := ?_) #[true, true, true, true, true, true, true, true, true, false, true, true, false, false, false, false] rfl rfl (any_of HT_.out (by kernel_rfl)) (fun _ _ _ h => h) (Or.inl ⟨by rfl, ?_⟩) ?_ ?_
        rotate_left
        · intro w'
          go_simp
          with_reducible rfl
        rotate_left
        · simp only [Act.put, List.setIfInBounds_toArray, List.set_cons_zero, List.set_cons_succ, i64_w, i32_w]
          rfl
        refine pure_ (i := 12) (N := some 74) (v := ?_) (a' := ?_) #[true, true, true, true, true, true, true, true, true, false, true, true, true, false, false, false] rfl rfl (any_of HT_.out (by kernel_rfl)) (fun _ _ _ h => h) (Or.inl ⟨by rfl, ?_⟩) ?_ ?_
        rotate_left
        · intro w'
          go_simp
          with_reducible rfl
        rotate_left
        · simp only [Act.put, List.setIfInBounds_toArray, List.set_cons_zero, List.set_cons_succ, i64_w, i32_w]
          rfl
        refine take_ (i := 13) (N := some 75) (v := ?_) (a' := ?_) #[true, true, true, true, true, true, true, true, true, false, true, true, true, true, false, false] rfl rfl (take_ofW HT_.out HW_.out (by kernel_rfl)) (fun _ _ _ h => h) (Or.inl ⟨by rfl, ?_⟩) hHeld ?_ ?_
        rotate_left
        · rintro w' hs_
          obtain ⟨s0, s1⟩ := hs_
          go_simp
          with_reducible rfl
        rotate_left
        · simp only [Act.put, List.setIfInBounds_toArray, List.set_cons_zero, List.set_cons_succ, i64_w, i32_w]
          rfl
        refine one_ (i := 9) (N := some 71) #[true, true, true, true, true, true, true, true, true, true, true, true, true, true, false, false] rfl rfl (one_of HT_.out (by kernel_rfl)) (by decide) (fun K hK => ?_)
        refine goes_ Try.func23 (by kernel_rfl) rfl #[.pointer (some ⟨p, 0, none⟩), .int .i64 300] (by rfl) rfl rfl (by (try simp only [List.map_toArray, List.map_cons, List.map_nil]); first | done | rfl | (simp only [List.length_drop, List.length_take]; rfl)) ?_
        with_reducible refine (rd_pair2 HOK.out _ HRD.out).mono ?_
        rintro e wq2 ⟨rfl, hr, hp⟩; have n1_ := Aside0.mk (V_puts HV.out hp); have n2_ := Aside0.mk (hp.below HP.out HB.out); clear HB HV HRD; have HB := n2_; have HV := n1_; have HRD := Aside0.mk hr; clear n1_ n2_ hr hp
        refine ⟨_, rfl, ?_⟩
        refine hK.out _ _ ⟨(HB.out.cell (World.block_lt_of_cell? w _ HC.out.1)).trans HC.out.1, (HB.out.cell (World.block_lt_of_cell? w _ HC.out.2)).trans HC.out.2⟩ (fun hHeld => ?_)
        clear hK K
        refine norm_ (a' := ?_) ?_ ?_
        rotate_left
        · show Act.put _ (some 71) _ = _
          simp only [Act.put, List.setIfInBounds_toArray, List.set_cons_zero, List.set_cons_succ, i64_w, i32_w]
          rfl
        refine pure_ (i := 14) (N := some 76) (v := ?_) (a' := ?_) #[true, true, true, true, true, true, true, true, true, true, true, true, true, true, true, false] rfl rfl (any_of HT_.out (by kernel_rfl)) (fun _ _ _ h => h) (Or.inl ⟨by rfl, ?_⟩) ?_ ?_
        rotate_left
        · intro w'
          go_simp
          with_reducible rfl
        rotate_left
        · simp only [Act.put, List.setIfInBounds_toArray, List.set_cons_zero, List.set_cons_succ, i64_w, i32_w]
          rfl
        refine pure_ (i := 15) (N := some 77) (v := ?_) (a' := ?_) #[true, true, true, true, true, true, true, true, true, true, true, true, true, true, true, true] rfl rfl (any_of HT_.out (by kernel_rfl)) (fun _ _ _ h => h) (Or.inl ⟨by rfl, ?_⟩) ?_ ?_
        rotate_left
        · intro w'
          go_simp
          with_reducible rfl
        rotate_left
        · simp only [Act.put, List.setIfInBounds_toArray, List.set_cons_zero, List.set_cons_succ, i64_w, i32_w]
          rfl
        refine done_ (done_of HT_.out (by kernel_rfl)) ?_
        try go_wp2
        go_roundg k1
        case measure => omega
        case rel => exact ⟨x12 + 1, by rw [show wrap64 (x12 + 1) = x12 + 1 by have := HD.out; have := hl0.out; unfold wrap64; omega], ⟨by have := HK.out; omega⟩, HRD, HV, HB⟩
      · have d1b : decide (x12 < x8) = false := decide_eq_false d1
        have n1_ : Aside0 (Rdr wc.heap.size p [] false wr) := ⟨by have h := HRD.out; have h1 := HX.out.1; have h2 := HK.out; rwa [List.drop_eq_nil_of_le (by omega), pcs_nil] at h⟩
        clear HRD d1
        have HRD := n1_
        clear n1_
        by_cases d5 : x8 = 0
        · have d5b : (x8 == 0) = true := by simp [d5]
          clear d5
          go_wp2_with (first | (go_at_call 26; (with_reducible refine (end_good _ HRD.out).mono ?_); rintro e w4 ⟨rfl, rfl⟩) | (go_at_call 17; (with_reducible refine (prebendlaw03_awake.true_ _).mono ?_); rintro e w5 ⟨rfl, hb⟩; have n2_ := Aside0.mk (below_step HB.out hb); clear HB; have HB := n2_; clear n2_ hb))
          go_ret
          exact ⟨by simp, HB.out⟩
        · have d5b : (x8 == 0) = false := by simp [d5]
          have hps : ps.length ≠ 0 := by have := HX.out.1; omega
          have hpos : 0 < b.length := by rw [HX.out.2]; exact pcs_pos hps
          obtain ⟨m, hm, hmb⟩ : ∃ m : Nat, a2.tmod (b.length : Int) = (m : Int) ∧ m < b.length := ⟨(a2 % (b.length : Int)).toNat, by
            rw [Int.tmod_eq_emod_of_nonneg ha2.out.1]; have := Int.emod_nonneg a2 (show (b.length : Int) ≠ 0 by omega); omega, by
            have h1 := Int.emod_nonneg a2 (show (b.length : Int) ≠ 0 by omega); have h2 := Int.emod_lt_of_pos a2 (show 0 < (b.length : Int) by omega); omega⟩
          obtain ⟨bm, hbm⟩ : ∃ bm, b.take m = bm := ⟨_, rfl⟩
          have hbml : bm.length = m := by rw [← hbm, List.length_take]; omega
          rw [← hbml] at hm
          have hw2 : wrap64 a2 = a2 := by have := ha2.out; unfold wrap64; omega
          have hw3 : wrap64 (bm.length : Int) = (bm.length : Int) := by have := hbl.out; unfold wrap64; omega
          have hz : ((b.length : Int) == 0) = false := by simp; intro h; rw [h] at hpos; simp at hpos
          have hz2 : ((b.length : Int) = 0) = False := by simp; intro h; rw [h] at hpos; simp at hpos
          obtain ⟨i06, hi06, _, hsz6, _⟩ := info_parts info5
          have hcut6 := cut_to (P := Try.prog) 22 5 .i64 Try.underlying22 hi06 A b.length c (bm.length : Int) (by omega) (by omega) (Kd.V_reads' HV.out).2.1
          rw [Int.toNat_natCast] at hcut6
          have HCM : Aside0 (Kd.C (Kd.int .u8) wr A bm.length bm) := ⟨by
            have := Kd.C_take (Kd.V_reads' HV.out).2.2 (show m ≤ b.length by omega)
            rwa [hbm] at this⟩
          have HCM2 : Aside0 (bm.length ≤ c) := ⟨by have := (Kd.V_reads' HV.out).2.1; omega⟩
          have hbb2 : Aside0 (∀ y ∈ bm, 0 ≤ y ∧ y ≤ 255) := ⟨fun y hy => hbb.out y (List.mem_of_mem_take (hbm ▸ hy))⟩
          have HCK : Aside0 (CutOk ps (bm, false)) := ⟨.inr ⟨m, by rw [← HX.out.2]; exact hmb, by rw [← hbm, HX.out.2]⟩⟩
          have HBL2 : Aside0 (bm.length ≤ 6200) := ⟨by have := hbl.out; omega⟩
          clear d5 hps hbm hbml hi06 hsz6 hmb
          go_wp2_with (first | (go_at_call 26; (with_reducible refine (end_good _ HRD.out).mono ?_); rintro e w4 ⟨rfl, rfl⟩) | (go_at_call 21; (with_reducible refine (new_f A c bm _ HCM.out HCM2.out hbb2.out (by have := HBL2.out; omega)).mono ?_); rintro e w5 ⟨p2, rfl, hp, hr, hb⟩; have HP2 := Aside0.mk (Nat.le_trans (below_size HB.out) hp); have n2_ := Aside0.mk (below_step HB.out hb); clear HB HRD; have HB := n2_; have HRD := Aside0.mk hr; clear n2_ hb hr hp))
          go_loopg [14] ps.length (fun kq v14 w' => ∃ (x14 : Int) (s : List Int × Bool), v14 = .int .i64 x14 ∧ Aside0 (0 ≤ x14 ∧ x14 + kq = (ps.length : Int)) ∧ Aside0 (CutOk (ps.drop x14.toNat) s) ∧ Aside0 (Rdr w4.heap.size p2 s.1 s.2 w') ∧ Aside0 (Below w.heap.size w w'))
          case atStart => exact ⟨0, (bm, false), rfl, ⟨by omega⟩, HCK, HRD, HB⟩
          case round =>
            clear HRD HB HCK HV HCM
            obtain ⟨x14, s, rfl, HK3, HCK, HRD, HB⟩ := hrel
            by_cases d6 : x14 < x8
            · have d6b : decide (x14 < x8) = true := decide_eq_true d6
              have hx0 : 0 ≤ x14 := HK3.out.1
              have hxp : x14 < (ps.length : Int) := by have := HX.out.1; omega
              obtain ⟨k2, rfl⟩ : ∃ k2, gk = k2 + 1 := ⟨gk - 1, by have := HK3.out; omega⟩
              have hdr := HG.out.drop hx0 hxp
              have HCK2 : Aside0 (CutOk (ps.drop (x14 + 1).toNat) (rText (rInt s).2 300).2) := ⟨CutOk.step (by have := HCK.out; rwa [hdr] at this) (HG.out.okx hx0 hxp)⟩
              have e14 : wrap64 (x14 + 1) = x14 + 1 := by have := HG.out.n; unfold wrap64; omega
              clear hdr d6 hx0 hxp
              go_wp2_with (first | (go_at_call 25; (with_reducible refine (int_f s _ HRD.out).mono ?_); rintro e w6 ⟨rfl, hr, hp⟩; have n1_ := Aside0.mk hr; have n2_ := Aside0.mk (hp.below HP2.out HB.out); clear HRD HB; have HRD := n1_; have HB := n2_; clear n1_ n2_ hr hp) | (go_at_call 23; (with_reducible refine (text_f (rInt s).2 300 _ HRD.out).mono ?_); rintro e w7 ⟨rfl, hr, hp⟩; have n1_ := Aside0.mk hr; have n2_ := Aside0.mk (hp.below HP2.out HB.out); clear HRD HB; have HRD := n1_; have HB := n2_; clear n1_ n2_ hr hp))
              go_roundg k2
              case measure => omega
              case rel => exact ⟨x14 + 1, _, by rw [e14], ⟨by have := HK3.out; omega⟩, HCK2, HRD, HB⟩
            · have d6b : decide (x14 < x8) = false := decide_eq_false d6
              have HSB : Aside0 (s.2 = true) := ⟨by have h := HCK.out; have h1 := HX.out.1; have h2 := HK3.out; rw [List.drop_eq_nil_of_le (by omega)] at h; exact h.nil⟩
              clear d6
              go_wp2_with (first | (go_at_call 17; (with_reducible refine (prebendlaw03_awake.true_ _).mono ?_); rintro e w8 ⟨rfl, hb⟩; have n1_ := Aside0.mk (HRD.out.below hb); have n2_ := Aside0.mk (below_step HB.out hb); clear HRD HB; have HRD := n1_; have HB := n2_; clear n1_ n2_ hb) | (go_at_call 26; (with_reducible refine (end_bad _ HRD.out HSB.out).mono ?_); rintro e w9 ⟨rfl, rfl⟩) | (go_at_call 25; (with_reducible refine (int_bad _ HRD.out HSB.out).mono ?_); rintro e w10 ⟨rfl, hr, hp⟩; have n2_ := Aside0.mk (hp.below HP2.out HB.out); clear HB HRD; have HB := n2_; have HRD := Aside0.mk hr; clear n2_ hr hp) | (go_at_call 23; (with_reducible refine (text_bad 5 _ HRD.out).mono ?_); rintro e w11 ⟨rfl, hr, hp⟩; have n2_ := Aside0.mk (hp.below HP2.out HB.out); clear HB HRD; have HB := n2_; clear n2_ hr hp))
              go_ret
              exact ⟨by simp, HB.out⟩
end Go.Proofs.Ytjmkpcnekghmhaa.PAll
end
