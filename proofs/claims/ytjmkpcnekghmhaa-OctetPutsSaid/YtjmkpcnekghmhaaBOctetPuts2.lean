/- Words, plain functions and contracts of the functions that the law of this claim reaches; no conditions. -/
import Derived.Test.YtjmkpcnekghmhaaBOctetPuts1
section
namespace Go.Proofs.Ytjmkpcnekghmhaa.PAll
open Go.RowKit Go.Proofs.YtjmkpcnekghmhaaW.PrintWords Go.Proofs.YtjmkpcnekghmhaaW.PrintLast Go.Proofs.YtjmkpcnekghmhaaW.PrintMore
attribute [local go_sem] max2_int min2_int max_two min_two max_three min_three max_four min_four   -- for this text's walks alone
set_option linter.unusedVariables false
set_option linter.unusedSimpArgs false

/-! ### prebendlaw03_OctetBack: function 5 -/
-- beside prebendlaw03_awake.calls, prebendref03_Int.calls, prebendref03_Text.calls, octet_Int.calls, octet_Text.calls, octet_put.calls, slices_Clip_byte.calls, new_f
def prebendlaw03_OctetBack.Pure : Prop := ∀ (l0 : List Int) (l1 : List ByteArray) (a2 : Int), l0.length ≤ maxLen → True
namespace BackB
theorem clip_b (A : Option Addr) (n c : Nat) (w : World) (hc : n ≤ c) :
    Calls Try.prog 39 #[.slice A n c] w fun e w' => e = .returned (.slice A n n) ∧ w' = w := by
  have hcut := slices_Clip_byte.cut A n c hc
  go_enter Try.func39, Try.ntmps39
  go_wp2
  go_ret
  exact ⟨rfl, rfl⟩
/-- A number's bytes, the highest first. -/
def beN : Nat → Int → List Int
  | 0, _ => []
  | d + 1, v => (v / 2 ^ (8 * d) % 256) :: beN d v
theorem beN_len (v : Int) : ∀ d, (beN d v).length = d
  | 0 => rfl
  | d + 1 => by simp [beN, beN_len v d]
theorem put_run (v : Int) : ∀ (d : Nat) (xs : List Int), d ≤ 8 → xs.length + d < 140737488355328 → octet_put.l0 (d + 1) v ((d : Int) - 1) xs = some (xs ++ beN d v)
  | 0, xs, _, _ => by
    rw [octet_put.l0.eq_2, if_neg (by simp)]; simp [beN]
  | d + 1, xs, h, hl => by
    have e1 : wrap64 (8 * (((d + 1 : Nat) : Int) - 1)) = ((8 * d : Nat) : Int) := by unfold wrap64; omega
    have e2 : wrap64 ((((d + 1 : Nat) : Int) - 1) - 1) = (d : Int) - 1 := by unfold wrap64; omega
    have e3 : shr .i64 v ((8 * d : Nat) : Int) = v / 2 ^ (8 * d) := by
      have := shr_small (rfl : shr .i64 v ((8 * d : Nat) : Int) = shr .i64 v ((8 * d : Nat) : Int)) (by show ((8 * d : Nat) : Int) ≤ 64; omega)
      rw [Int.toNat_natCast] at this
      exact this.symm
    rw [octet_put.l0.eq_2, if_pos (by omega), e1, e2, if_pos (by omega), if_pos (by omega), e3, put_run v d _ (by omega) (by simp; omega)]
    simp [beN]
theorem int_be (l : List Int) (v : Int) (hl : l.length + 8 < 140737488355328) : octet_Int.f 9 l v = some (l ++ beN 8 v) := by
  have e : wrap64 (8 - 1) = ((8 : Nat) : Int) - 1 := by decide +kernel
  have h := put_run v 8 l (by omega) hl
  unfold octet_Int.f octet_put.f
  have h1 : slices_Clone_byte.f l = some l := by unfold slices_Clone_byte.f; simp only [Option.bind_some]; rw [if_pos (by simp; omega)]; rfl
  have h2 : slices_Grow_byte.f l 8 = some l := by unfold slices_Grow_byte.f; rw [if_pos (by omega), if_pos (by omega)]
  rw [h1, Option.bind_some, h2, Option.bind_some, e, h]
  rfl
theorem be_num (bs : List Int) (hb : ∀ x ∈ bs, 0 ≤ x ∧ x ≤ 255) (hl : bs.length = 8) : beN 8 (numS bs 0) = bs := by
  obtain ⟨c0, c1, c2, c3, c4, c5, c6, c7, rfl⟩ : ∃ c0 c1 c2 c3 c4 c5 c6 c7, bs = [c0, c1, c2, c3, c4, c5, c6, c7] := by
    match bs, hl with
    | [c0, c1, c2, c3, c4, c5, c6, c7], _ => exact ⟨_, _, _, _, _, _, _, _, rfl⟩
  simp only [List.mem_cons, List.not_mem_nil, or_false, forall_eq_or_imp, forall_eq] at hb
  obtain ⟨h0, h1, h2, h3, h4, h5, h6, h7⟩ := hb
  simp only [numS]
  rw [or_byte 0 c0 h0.1 (by omega), show wrap64 (0 * 256 + c0) = c0 by unfold wrap64; omega]
  rw [or_byte _ c1 h1.1 (by omega), show wrap64 (c0 * 256 + c1) = c0 * 256 + c1 by unfold wrap64; omega]
  rw [or_byte _ c2 h2.1 (by omega), show wrap64 ((c0 * 256 + c1) * 256 + c2) = c0 * 65536 + c1 * 256 + c2 by unfold wrap64; omega]
  rw [or_byte _ c3 h3.1 (by omega), show wrap64 ((c0 * 65536 + c1 * 256 + c2) * 256 + c3) = c0 * 16777216 + c1 * 65536 + c2 * 256 + c3 by unfold wrap64; omega]
  rw [or_byte _ c4 h4.1 (by omega)]
  generalize hx : c0 * 16777216 + c1 * 65536 + c2 * 256 + c3 = x
  rw [show wrap64 (x * 256 + c4) = x * 256 + c4 by unfold wrap64; omega]
  rw [or_byte _ c5 h5.1 (by omega), show wrap64 ((x * 256 + c4) * 256 + c5) = x * 65536 + c4 * 256 + c5 by unfold wrap64; omega]
  rw [or_byte _ c6 h6.1 (by omega), show wrap64 ((x * 65536 + c4 * 256 + c5) * 256 + c6) = x * 16777216 + c4 * 65536 + c5 * 256 + c6 by unfold wrap64; omega]
  rw [or_byte _ c7 h7.1 (by omega)]
  generalize hy : wrap64 ((x * 16777216 + c4 * 65536 + c5 * 256 + c6) * 256 + c7) = y
  have hy2 : y = x * 4294967296 + c4 * 16777216 + c5 * 65536 + c6 * 256 + c7 ∨ y = x * 4294967296 + c4 * 16777216 + c5 * 65536 + c6 * 256 + c7 - 18446744073709551616 := by rw [← hy]; unfold wrap64; omega
  simp only [beN]
  have q0 : y / 2 ^ (8 * 7) % 256 = c0 := by show y / 72057594037927936 % 256 = c0; omega
  have q1 : y / 2 ^ (8 * 6) % 256 = c1 := by show y / 281474976710656 % 256 = c1; omega
  have q2 : y / 2 ^ (8 * 5) % 256 = c2 := by show y / 1099511627776 % 256 = c2; omega
  have q3 : y / 2 ^ (8 * 4) % 256 = c3 := by show y / 4294967296 % 256 = c3; omega
  have q4 : y / 2 ^ (8 * 3) % 256 = c4 := by show y / 16777216 % 256 = c4; omega
  have q5 : y / 2 ^ (8 * 2) % 256 = c5 := by show y / 65536 % 256 = c5; omega
  have q6 : y / 2 ^ (8 * 1) % 256 = c6 := by show y / 256 % 256 = c6; omega
  have q7 : y / 2 ^ (8 * 0) % 256 = c7 := by show y / 1 % 256 = c7; omega
  rw [q0, q1, q2, q3, q4, q5, q6, q7]
/-- A row of bytes that lies in a block that may be written. -/
def Ow (g : Nat) (r : List Int) (W : World) : Prop := ∃ arr : Array Value, W.heap[g]? = some (.cells arr 5 (0, 0)) ∧ r.length ≤ arr.size ∧ arr.toList.take r.length = nums .u8 r
theorem Ow.C {g : Nat} {r : List Int} {W : World} (h : Ow g r W) (hm : r.length < 140737488355328) : Kd.C (Kd.int .u8) W (some ⟨g, 0, none⟩) r.length r := by
  obtain ⟨arr, h1, h2, h3⟩ := h
  refine ⟨rfl, by omega, fun _ => ⟨_, rfl, fun j p hj => ⟨[.int .u8 p], rfl, rfl, fun i u hu => ?_⟩⟩⟩
  obtain rfl : i = 0 := by
    rcases i with _ | i
    · rfl
    · simp at hu
  obtain rfl : Value.int .u8 p = u := by simpa using hu
  show W.cell? (Addr.add ⟨g, 0, none⟩ (j * 1 + 0)) = _
  rw [add_plain, blk_cell h1]
  have hjl : j < r.length := (List.getElem?_eq_some_iff.1 hj).1
  have : (arr.toList.take r.length)[j]? = some (.int .u8 p) := by rw [h3]; simp [nums, hj]
  rw [List.getElem?_take, if_pos hjl] at this
  simpa using this
theorem Ow.below {g : Nat} {r : List Int} {W W1 : World} (h : Ow g r W) (hb : Below W.heap.size W W1) : Ow g r W1 := by
  obtain ⟨arr, h1, h2⟩ := h
  exact ⟨arr, blk_below h1 hb, h2⟩
theorem int_own (A0 : Option Addr) (c0 : Nat) (l0 : List Int) (a1 : Int) (w : World) (hr0 : Kd.C (Kd.int .u8) w A0 l0.length l0) (hc0 : l0.length ≤ c0) (hl : l0.length + 8 < 140737488355328) :
    Calls Try.prog 18 #[.slice A0 l0.length c0, .int .i64 a1] w fun e w' => ∃ g, e = .returned (.slice (some ⟨g, 0, none⟩) (l0 ++ beN 8 a1).length (l0 ++ beN 8 a1).length) ∧ w.heap.size ≤ g ∧ Ow g (l0 ++ beN 8 a1) w' ∧ Below w.heap.size w w' := by
  have hf : octet_put.f 9 l0 a1 8 = some (l0 ++ beN 8 a1) := by
    have := int_be l0 a1 hl
    unfold octet_Int.f at this
    obtain ⟨t, ht, h2⟩ := Option.bind_eq_some_iff.1 this
    have : t = l0 ++ beN 8 a1 := by simpa [slices_Clip_byte.f] using h2
    rw [ht, this]
  have hpos : 0 < (l0 ++ beN 8 a1).length := by simp [beN_len]
  have HF := Aside0.mk hf
  have HR := Aside0.mk hr0
  have HC := Aside0.mk hc0
  obtain ⟨r, hr⟩ : ∃ r, l0 ++ beN 8 a1 = r := ⟨_, rfl⟩
  rw [hr] at HF hpos ⊢
  have HPO := Aside0.mk hpos
  clear hf hr0 hc0 hr hpos hl
  go_enter Try.func18, Try.ntmps18
  go_wp2_with (first
    | (go_at_call 40; (with_reducible refine (octet_put.calls 9 A0 c0 l0 a1 8 r w HR.out HC.out HF.out).mono ?_); rintro e w1 ⟨v, rfl, ho, hb⟩; have hown := Kd.own_of_R ho; rcases hown.2 with ⟨e, e0⟩ | ⟨g, cap, cur, e, hbg, hheap, hn, hm, hsz, htake⟩; (exact absurd e0 (by have := HPO.out; omega)); subst e; have HH := Aside0.mk hheap; have HT := Aside0.mk htake; have HN := Aside0.mk hn; have HB := Aside0.mk hb; have HZ := Aside0.mk hsz; have HG := Aside0.mk hbg; clear hheap htake hn hb hsz hown hbg hm ho)
    | (go_at_call 39; (with_reducible refine (clip_b _ _ _ _ HN.out).mono ?_); rintro e w2 ⟨rfl, rfl⟩))
  go_ret
  refine ⟨g, rfl, HG.out, ⟨cur, HH.out, by have := HZ.out; have := HN.out; omega, ?_⟩, HB.out⟩
  have := HT.out
  rw [Nat.mul_one] at this
  rw [this]
  rfl
theorem int_V (A0 : Option Addr) (c0 : Nat) (l0 : List Int) (a1 : Int) (w : World) (hr0 : Kd.C (Kd.int .u8) w A0 l0.length l0) (hc0 : l0.length ≤ c0) (hl : l0.length + 8 < 140737488355328) :
    Calls Try.prog 18 #[.slice A0 l0.length c0, .int .i64 a1] w fun e w' => ∃ A c, e = .returned (.slice A (l0 ++ beN 8 a1).length c) ∧ Kd.V (Kd.int .u8) 5 w' 0 (fun k => w.heap.size ≤ k) (.slice A (l0 ++ beN 8 a1).length c) (l0 ++ beN 8 a1) ∧ Below w.heap.size w w' := by
  refine (octet_Int.calls 9 A0 c0 l0 a1 _ w hr0 hc0 (int_be l0 a1 hl)).mono ?_
  rintro e w' ⟨v, rfl, hv, hb⟩
  obtain ⟨A, c, rfl, hc, hF⟩ := hv
  exact ⟨A, c, rfl, Kd.V_mk (e := 5) (base := 0) hc hF, hb⟩
theorem text_z (l : List Int) (hl : l.length + 3 < 140737488355328) : octet_Text.f 9 l ⟨#[122]⟩ = some (l ++ [0, 1, 122], 0) := by
  have h1 : slices_Clone_byte.f l = some l := by unfold slices_Clone_byte.f; simp only [Option.bind_some]; rw [if_pos (by simp; omega)]; rfl
  have h2 : slices_Grow_byte.f l 2 = some l := by unfold slices_Grow_byte.f; rw [if_pos (by omega), if_pos (by omega)]
  have e : wrap64 (2 - 1) = ((2 : Nat) : Int) - 1 := by decide +kernel
  have h := octet_put.l0.eq_2
  have hp : octet_put.f 9 l 1 2 = some (l ++ [0, 1]) := by
    unfold octet_put.f
    rw [h1, Option.bind_some, h2, Option.bind_some, e]
    have e1 : wrap64 (8 * (((2 : Nat) : Int) - 1)) = 8 := by decide +kernel
    have e2 : wrap64 ((((2 : Nat) : Int) - 1) - 1) = 0 := by decide +kernel
    have e3 : wrap64 (8 * 0) = 0 := by decide +kernel
    have e4 : wrap64 (0 - 1) = -1 := by decide +kernel
    have s1 : shr .i64 1 8 % 256 = 0 := by decide +kernel
    have s2 : shr .i64 1 0 % 256 = 1 := by decide +kernel
    rw [h, if_pos (by omega), e1, e2, if_pos (by omega), if_pos (by omega), h, if_pos (by omega), e3, e4, if_pos (by omega), if_pos (by simp; omega), h, if_neg (by omega), s1, s2]
    simp
  unfold octet_Text.f
  rw [if_neg (by decide), show (((⟨#[122]⟩ : ByteArray).size : Nat) : Int) = 1 from rfl, hp, Option.bind_some, if_pos (by show (l ++ [0, 1]).length + 1 < _; simp; omega)]
  show some ((l ++ [0, 1]) ++ bytesOf ⟨#[122]⟩, (0 : Int)) = _
  rw [show bytesOf ⟨#[122]⟩ = [122] from rfl]
  simp
theorem text_V (A0 : Option Addr) (c0 : Nat) (l0 : List Int) (w : World) (hr0 : Kd.C (Kd.int .u8) w A0 l0.length l0) (hc0 : l0.length ≤ c0) (hl : l0.length + 3 < 140737488355328) :
    Calls Try.prog 16 #[.slice A0 l0.length c0, .string ⟨#[122]⟩] w fun e w' => ∃ A c, e = .returned (.tuple #[.slice A (l0 ++ [0, 1, 122]).length c, .int .i64 0]) ∧ Kd.V (Kd.int .u8) 5 w' 0 (fun k => w.heap.size ≤ k) (.slice A (l0 ++ [0, 1, 122]).length c) (l0 ++ [0, 1, 122]) ∧ Below w.heap.size w w' := by
  refine (octet_Text.calls 9 A0 c0 l0 ⟨#[122]⟩ _ 0 w hr0 hc0 (text_z l0 hl)).mono ?_
  rintro e w' ⟨v, rfl, hv, hb⟩
  obtain ⟨A, c, rfl, hc, hF⟩ := hv
  exact ⟨A, c, rfl, Kd.V_mk (e := 5) (base := 0) hc hF, hb⟩
theorem beN_bd (v : Int) : ∀ (d : Nat) (y : Int), y ∈ beN d v → 0 ≤ y ∧ y ≤ 255
  | 0, y, h => by simp [beN] at h
  | d + 1, y, h => by
    rcases List.mem_cons.1 h with rfl | h
    · omega
    · exact beN_bd v d y h
theorem Ow.lt {g : Nat} {r : List Int} {W : World} (h : Ow g r W) : g < W.heap.size := by
  obtain ⟨arr, h1, _⟩ := h
  exact blk_lt h1
theorem Ow.at_ {g : Nat} {r : List Int} {W : World} (h : Ow g r W) (i : Int) (h0 : 0 ≤ i) (h1 : i < (r.length : Int)) : W.cell? ⟨g, i.toNat, none⟩ = some (.int .u8 (rd r i)) ∧ W.frozen? ⟨g, i.toNat, none⟩ = false := by
  obtain ⟨arr, ha, h2, h3⟩ := h
  refine ⟨?_, blk_frozen ha _⟩
  rw [blk_cell ha]
  have hlt : i.toNat < r.length := by omega
  have : (arr.toList.take r.length)[i.toNat]? = (nums .u8 r)[i.toNat]? := by rw [h3]
  rw [List.getElem?_take, if_pos hlt] at this
  simpa [nums, rd, hlt, List.getD_eq_getElem?_getD] using this
theorem Ow.put {g : Nat} {r : List Int} {W : World} (h : Ow g r W) (i : Nat) (v : Int) : Ow g (r.set i v) (W.setCell ⟨g, i, none⟩ (.int .u8 v)) := by
  obtain ⟨arr, ha, h2, h3⟩ := h
  refine ⟨_, blk_put ha i _ rfl, by simpa using h2, ?_⟩
  rw [List.length_set]
  have : nums .u8 (r.set i v) = (nums .u8 r).set i (.int .u8 v) := by simp [nums, List.map_set]
  rw [this, ← h3, Array.toList_setIfInBounds, List.take_set]
theorem V_puts2 {p : Nat} {ok : Nat → Prop} {w W : World} {v : Value} {xs : List Int} (h : Kd.V (Kd.int .u8) 5 w 0 ok v xs) (hok : ∀ k, ok k → k ≠ p) (hp : Puts p w W) : Kd.V (Kd.int .u8) 5 W 0 ok v xs := by
  obtain ⟨A, c, rfl, hc, hF⟩ := h
  exact Kd.V_mk hc (Foot.step hF (fun k hk hlt => (hp 0 (Nat.zero_le _)).2.2 k (hok k hk)))
theorem V_none (W : World) (ok : Nat → Prop) (A : Option Addr) (c : Nat) : Kd.V (Kd.int .u8) 5 W 0 ok (.slice A ([] : List Int).length c) [] :=
  Kd.V_mk (Nat.zero_le _) (fun _ _ => ⟨rfl, by simp, fun h => absurd h (by simp)⟩)
theorem int_at {base p : Nat} {xs : List Int} (W : World) (h : Rdr base p xs false W) (h8 : 8 ≤ xs.length) : Calls Try.prog 25 #[.pointer (some ⟨p, 0, none⟩)] W fun e W' => ∃ v, e = .returned (.int .i64 v) ∧ beN 8 v = xs.take 8 ∧ Rdr base p (xs.drop 8) false W' ∧ Puts p W W' := by
  have := int_f (base := base) (p := p) (xs, false) W h
  rw [show rInt (xs, false) = (numS (xs.take 8) 0, (xs.drop 8, false)) by unfold rInt; rw [if_neg (by simp; omega)]] at this
  exact this.mono (fun e W' ⟨h1, h2, h3⟩ => ⟨_, h1, be_num _ (fun y hy => h.by_ y (List.mem_of_mem_take hy)) (by rw [List.length_take]; omega), h2, h3⟩)
theorem ref_shift (v : Int) (d : Nat) (h : d < 8) : shr .u64 (IntKind.u64.wrap v) (IntKind.u64.wrap (wrap64 (8 * (((d + 1 : Nat) : Int) - 1)))) % 256 = v / 2 ^ (8 * d) % 256 := by
  have e1 : IntKind.u64.wrap (wrap64 (8 * (((d + 1 : Nat) : Int) - 1))) = ((8 * d : Nat) : Int) := by rw [show ∀ z, IntKind.u64.wrap z = z % 18446744073709551616 from fun _ => rfl]; unfold wrap64; omega
  rw [e1, show IntKind.u64.wrap v = v % 18446744073709551616 from rfl]
  show (v % 18446744073709551616) / 2 ^ (min ((8 * d : Nat) : Int).toNat 64) % 256 = _
  rw [Int.toNat_natCast, Nat.min_eq_left (by omega)]
  have hd : d = 0 ∨ d = 1 ∨ d = 2 ∨ d = 3 ∨ d = 4 ∨ d = 5 ∨ d = 6 ∨ d = 7 := by omega
  rcases hd with rfl | rfl | rfl | rfl | rfl | rfl | rfl | rfl <;> simp only [Nat.reduceMul, Int.reducePow] <;> omega
theorem ref_run (v : Int) : ∀ (d : Nat) (xs : List Int), d ≤ 8 → xs.length + d < 140737488355328 → prebendref03_Int.l0 (d + 1) v xs ((d : Int) - 1) = some (xs ++ beN d v)
  | 0, xs, _, _ => by
    rw [prebendref03_Int.l0.eq_2, if_neg (by simp)]; simp [beN]
  | d + 1, xs, h, hl => by
    have e1 : IntKind.u64.wrap (wrap64 (8 * (((d + 1 : Nat) : Int) - 1))) = ((8 * d : Nat) : Int) := by rw [show ∀ z, IntKind.u64.wrap z = z % 18446744073709551616 from fun _ => rfl]; unfold wrap64; omega
    have e2 : wrap64 ((((d + 1 : Nat) : Int) - 1) - 1) = (d : Int) - 1 := by unfold wrap64; omega
    rw [prebendref03_Int.l0.eq_2, if_pos (by omega), if_pos (by rw [e1]; omega), if_pos (by omega), ref_shift v d (by omega), e2, ref_run v d _ (by omega) (by simp; omega)]
    simp [beN]
theorem ref_be (l : List Int) (v : Int) (hl : l.length + 8 < 140737488355328) : prebendref03_Int.f 9 l v = some (l ++ beN 8 v) := by
  have h := ref_run v 8 l (by omega) hl
  unfold prebendref03_Int.f
  rw [Option.bind_some, if_pos (by simp; omega)]
  exact h
theorem rdr_lt {base p : Nat} {xs : List Int} {b : Bool} {W : World} (h : Rdr base p xs b W) : p < W.heap.size := by
  obtain ⟨A, c, h1, _⟩ := h.ex
  exact blk_lt h1
structure HoldO (w : World) (ok : Nat → Prop) (vg vx v2 v3 : Value) (gl x t2 t3 : List Int) (W : World) : Prop where
  below : Below w.heap.size w W
  g : Kd.V (Kd.int .u8) 5 W 0 ok vg gl
  x : Kd.V (Kd.int .u8) 5 W 0 ok vx x
  t2 : Kd.V (Kd.int .u8) 5 W 0 ok v2 t2
  t3 : Kd.V (Kd.int .u8) 5 W 0 ok v3 t3
theorem HoldO.go {w : World} {ok : Nat → Prop} {vg vx v2 v3 : Value} {gl x t2 t3 : List Int} {W W1 : World} (h : HoldO w ok vg vx v2 v3 gl x t2 t3 W) (hb : Below W.heap.size W W1) : HoldO w ok vg vx v2 v3 gl x t2 t3 W1 :=
  ⟨below_step h.below hb, Kd.V_below h.g hb, Kd.V_below h.x hb, Kd.V_below h.t2 hb, Kd.V_below h.t3 hb⟩
theorem ref_z (l : List Int) (hl : l.length < 1000000) : prebendref03_Text.f l ⟨#[122]⟩ = some (l ++ [0, 1, 122]) := by
  unfold prebendref03_Text.f
  rw [if_pos ⟨by omega, by decide⟩]
  simp only [show (((⟨#[122]⟩ : ByteArray).size : Nat) : Int) = 1 from rfl, show bytesOf ⟨#[122]⟩ = [122] from rfl]
  simp
def Cv (v : Value) (l : List Int) (W : World) : Prop := (convert 22 9 v).run Try.prog W = .ok (.string (strOfNums l)) W
theorem horner (v : Int) : ∀ (d : Nat) (a : Int), d ≤ 8 → numS (beN d v) a = wrap64 (a * 2 ^ (8 * d) + v % 2 ^ (8 * d)) ∨ d = 0
  | 0, a, _ => .inr rfl
  | d + 1, a, h => by
    refine .inl ?_
    have hc : 0 ≤ v / 2 ^ (8 * d) % 256 ∧ v / 2 ^ (8 * d) % 256 ≤ 255 := by omega
    simp only [beN, numS]
    rw [or_byte _ _ hc.1 (by omega)]
    rcases horner v d (wrap64 (a * 256 + v / 2 ^ (8 * d) % 256)) (by omega) with e | rfl
    · rw [e]
      have hd : d = 0 ∨ d = 1 ∨ d = 2 ∨ d = 3 ∨ d = 4 ∨ d = 5 ∨ d = 6 ∨ d = 7 := by omega
      rcases hd with rfl | rfl | rfl | rfl | rfl | rfl | rfl | rfl <;> simp only [Nat.reduceMul, Nat.reduceAdd, Int.reducePow] <;> unfold wrap64 <;> omega
    · simp only [beN, numS, Nat.reduceMul, Nat.reduceAdd, Int.reducePow]; unfold wrap64; omega
theorem num_be8 (v : Int) (h : -9223372036854775808 ≤ v ∧ v ≤ 9223372036854775807) : numS (beN 8 v) 0 = v := by
  rcases horner v 8 0 (by omega) with e | e
  · rw [e]; simp only [Nat.reduceMul, Int.reducePow]; unfold wrap64; omega
  · cases e
theorem num_be2 (v : Int) (h : 0 ≤ v ∧ v ≤ 65535) : numS (beN 2 v) 0 = v := by
  rcases horner v 2 0 (by omega) with e | e
  · rw [e]; simp only [Nat.reduceMul, Int.reducePow]; unfold wrap64; omega
  · cases e
/-- What stands for a number and a text. -/
def pc (q : Int × ByteArray) : List Int := beN 8 q.1 ++ (beN 2 (q.2.size : Int) ++ bytesOf q.2)
def pcs (l : List (Int × ByteArray)) : List Int := (l.map pc).flatten
theorem pcs_snoc (l : List (Int × ByteArray)) (q : Int × ByteArray) : pcs (l ++ [q]) = pcs l ++ pc q := by simp [pcs]
theorem pcs_cons (l : List (Int × ByteArray)) (q : Int × ByteArray) : pcs (q :: l) = pc q ++ pcs l := by simp [pcs]
def Ok (q : Int × ByteArray) : Prop := (-9223372036854775808 ≤ q.1 ∧ q.1 ≤ 9223372036854775807) ∧ q.2.size ≤ 300
theorem pc_len (q : Int × ByteArray) : (pc q).length = 10 + q.2.size := by simp [pc, beN_len, bytesOf_length]; omega
theorem pcs_len {l : List (Int × ByteArray)} (h : ∀ q ∈ l, Ok q) : (pcs l).length ≤ 310 * l.length := by
  induction l with
  | nil => simp [pcs]
  | cons q l ih =>
    have h1 := ih (fun x hx => h x (List.mem_cons_of_mem _ hx))
    have h2 := (h q (List.mem_cons_self ..)).2
    rw [pcs_cons, List.length_append, pc_len, List.length_cons]; omega
theorem rInt_pc (q : Int × ByteArray) (r : List Int) (h : Ok q) : rInt (pc q ++ r, false) = (q.1, (beN 2 (q.2.size : Int) ++ (bytesOf q.2 ++ r), false)) := by
  have e : pc q ++ r = beN 8 q.1 ++ (beN 2 (q.2.size : Int) ++ (bytesOf q.2 ++ r)) := by simp [pc]
  rw [e]
  unfold rInt
  rw [if_neg (by simp [beN_len])]
  simp only
  rw [List.take_left' (beN_len _ _), List.drop_left' (beN_len _ _), num_be8 _ h.1]
theorem rText_pc (q : Int × ByteArray) (r : List Int) (h : Ok q) : rText (beN 2 (q.2.size : Int) ++ (bytesOf q.2 ++ r), false) 300 = (bytesOf q.2, (r, false)) := by
  have h2 := h.2
  unfold rText
  rw [if_neg (by simp [beN_len])]
  simp only
  rw [List.take_left' (beN_len _ _), List.drop_left' (beN_len _ _), num_be2 _ (by omega), if_neg (by simp [beN_len, bytesOf_length]; omega)]
  simp only [Int.toNat_natCast]
  rw [List.take_left' (bytesOf_length _), List.drop_left' (bytesOf_length _)]
/-- A reader of bytes that are cut off. -/
def CutOk (l : List (Int × ByteArray)) (s : List Int × Bool) : Prop := s.2 = true ∨ ∃ c, c < (pcs l).length ∧ s = ((pcs l).take c, false)
theorem rInt_bad {s : List Int × Bool} (h : s.2 = true) : rInt s = (0, (s.1, true)) := by simp [rInt, h]
theorem rText_bad {s : List Int × Bool} (m : Int) (h : s.2 = true) : rText s m = ([], (s.1, true)) := by simp [rText, h]
theorem CutOk.step {q : Int × ByteArray} {l : List (Int × ByteArray)} {s : List Int × Bool} (h : CutOk (q :: l) s) (hq : Ok q) : CutOk l (rText (rInt s).2 300).2 := by
  have hq2 := hq.2
  rcases h with h | ⟨c, hc, rfl⟩
  · rw [rInt_bad h, rText_bad _ rfl]; exact .inl rfl
  · rw [pcs_cons, List.length_append, pc_len] at hc
    have e : pcs (q :: l) = beN 8 q.1 ++ (beN 2 (q.2.size : Int) ++ (bytesOf q.2 ++ pcs l)) := by simp [pcs_cons, pc]
    rw [e]
    by_cases h8 : c < 8
    · have : rInt ((beN 8 q.1 ++ (beN 2 (q.2.size : Int) ++ (bytesOf q.2 ++ pcs l))).take c, false) = (0, ((beN 8 q.1 ++ (beN 2 (q.2.size : Int) ++ (bytesOf q.2 ++ pcs l))).take c, true)) := by
        unfold rInt; rw [if_pos (by simp [beN_len]; omega)]
      rw [this, rText_bad _ rfl]; exact .inl rfl
    · have e1 : (beN 8 q.1 ++ (beN 2 (q.2.size : Int) ++ (bytesOf q.2 ++ pcs l))).take c = beN 8 q.1 ++ (beN 2 (q.2.size : Int) ++ (bytesOf q.2 ++ pcs l)).take (c - 8) := by
        rw [List.take_append, beN_len, List.take_of_length_le (by rw [beN_len]; omega)]
      have e2 : rInt (beN 8 q.1 ++ (beN 2 (q.2.size : Int) ++ (bytesOf q.2 ++ pcs l)).take (c - 8), false) = (q.1, ((beN 2 (q.2.size : Int) ++ (bytesOf q.2 ++ pcs l)).take (c - 8), false)) := by
        unfold rInt
        rw [if_neg (by simp [beN_len])]
        simp only
        rw [List.take_left' (beN_len _ _), List.drop_left' (beN_len _ _), num_be8 _ hq.1]
      rw [e1, e2]
      simp only
      by_cases h10 : c < 10
      · have : rText ((beN 2 (q.2.size : Int) ++ (bytesOf q.2 ++ pcs l)).take (c - 8), false) 300 = ([], ((beN 2 (q.2.size : Int) ++ (bytesOf q.2 ++ pcs l)).take (c - 8), true)) := by
          unfold rText; rw [if_pos (by simp [beN_len]; omega)]
        rw [this]; exact .inl rfl
      · have e3 : (beN 2 (q.2.size : Int) ++ (bytesOf q.2 ++ pcs l)).take (c - 8) = beN 2 (q.2.size : Int) ++ (bytesOf q.2 ++ pcs l).take (c - 10) := by
          rw [List.take_append, beN_len, List.take_of_length_le (by rw [beN_len]; omega)]; congr 2
        rw [e3]
        unfold rText
        rw [if_neg (by simp [beN_len])]
        simp only
        rw [List.take_left' (beN_len _ _), List.drop_left' (beN_len _ _), num_be2 _ (by omega)]
        by_cases hn : c - 10 < q.2.size
        · rw [if_pos (by simp [beN_len, bytesOf_length]; omega)]; exact .inl rfl
        · rw [if_neg (by simp [beN_len, bytesOf_length]; omega)]
          refine .inr ⟨c - 10 - q.2.size, by omega, ?_⟩
          simp only [Int.toNat_natCast]
          rw [List.take_append, bytesOf_length, List.take_of_length_le (by rw [bytesOf_length]; omega), List.drop_left' (bytesOf_length _)]
theorem text_be (l : List Int) (s : ByteArray) (hs : s.size ≤ 300) (hl : l.length < 1000000) : octet_Text.f 3 l s = some (l ++ (beN 2 (s.size : Int) ++ bytesOf s), 0) := by
  have h1 : slices_Clone_byte.f l = some l := by unfold slices_Clone_byte.f; simp only [Option.bind_some]; rw [if_pos (by simp; omega)]; rfl
  have h2 : slices_Grow_byte.f l 2 = some l := by unfold slices_Grow_byte.f; rw [if_pos (by omega), if_pos (by omega)]
  have e : wrap64 (2 - 1) = ((2 : Nat) : Int) - 1 := by decide +kernel
  have hp : octet_put.f 3 l (s.size : Int) 2 = some (l ++ beN 2 (s.size : Int)) := by
    unfold octet_put.f
    rw [h1, Option.bind_some, h2, Option.bind_some, e]
    exact put_run _ 2 l (by omega) (by omega)
  unfold octet_Text.f
  rw [if_neg (by omega), hp, Option.bind_some, if_pos (by simp [beN_len]; omega)]
  simp [slices_Clip_byte.f]
theorem strOfNums_bytesOf (s : ByteArray) : strOfNums (bytesOf s) = s := by
  unfold strOfNums bytesOf
  rw [List.map_map]
  have : (s.data.toList.map ((fun n : Int => UInt8.ofNat n.toNat) ∘ fun b : UInt8 => (b.toNat : Int))) = s.data.toList := by
    rw [List.map_congr_left (g := id) (fun b _ => by simp [Function.comp])]
    simp
  rw [this]
def mid (q : Int × ByteArray) (r : List Int) : List Int := beN 2 (q.2.size : Int) ++ (bytesOf q.2 ++ r)
theorem rd_pair1 {base p : Nat} {q : Int × ByteArray} {r : List Int} (hq : Ok q) (W : World) (h : Rdr base p (pc q ++ r) false W) : Calls Try.prog 25 #[.pointer (some ⟨p, 0, none⟩)] W fun e W' => e = .returned (.int .i64 q.1) ∧ Rdr base p (mid q r) false W' ∧ Puts p W W' := by
  have := int_f (base := base) (p := p) (pc q ++ r, false) W h
  rw [rInt_pc q r hq] at this
  exact this
theorem rd_pair2 {base p : Nat} {q : Int × ByteArray} {r : List Int} (hq : Ok q) (W : World) (h : Rdr base p (mid q r) false W) : Calls Try.prog 23 #[.pointer (some ⟨p, 0, none⟩), .int .i64 300] W fun e W' => e = .returned (.string q.2) ∧ Rdr base p r false W' ∧ Puts p W W' := by
  have := text_f (base := base) (p := p) (mid q r, false) 300 W h
  rw [mid, rText_pc q r hq] at this
  simp only [strOfNums_bytesOf] at this
  exact this
theorem text_V2 (A0 : Option Addr) (c0 : Nat) (l0 : List Int) (s : ByteArray) (w : World) (hr0 : Kd.C (Kd.int .u8) w A0 l0.length l0) (hc0 : l0.length ≤ c0) (hs : s.size ≤ 300) (hl : l0.length < 1000000) :
    Calls Try.prog 16 #[.slice A0 l0.length c0, .string s] w fun e w' => ∃ A c, e = .returned (.tuple #[.slice A (l0 ++ (beN 2 (s.size : Int) ++ bytesOf s)).length c, .int .i64 0]) ∧ Kd.V (Kd.int .u8) 5 w' 0 (fun k => w.heap.size ≤ k) (.slice A (l0 ++ (beN 2 (s.size : Int) ++ bytesOf s)).length c) (l0 ++ (beN 2 (s.size : Int) ++ bytesOf s)) ∧ Below w.heap.size w w' := by
  refine (octet_Text.calls 3 A0 c0 l0 s _ 0 w hr0 hc0 (text_be l0 s hs hl)).mono ?_
  rintro e w' ⟨v, rfl, hv, hb⟩
  obtain ⟨A, c, rfl, hc, hF⟩ := hv
  exact ⟨A, c, rfl, Kd.V_mk (e := 5) (base := 0) hc hF, hb⟩
theorem end_bad {base p : Nat} {s : List Int × Bool} (W : World) (h : Rdr base p s.1 s.2 W) (hs : s.2 = true) : Calls Try.prog 26 #[.pointer (some ⟨p, 0, none⟩)] W fun e W' => e = .returned (.bool false) ∧ W' = W := by
  have := end_f (base := base) (p := p) s W h
  rwa [show rEnd s = false by simp [rEnd, hs]] at this
theorem int_bad {base p : Nat} {s : List Int × Bool} (W : World) (h : Rdr base p s.1 s.2 W) (hs : s.2 = true) : Calls Try.prog 25 #[.pointer (some ⟨p, 0, none⟩)] W fun e W' => e = .returned (.int .i64 0) ∧ Rdr base p s.1 true W' ∧ Puts p W W' := by
  have := int_f (base := base) (p := p) s W h
  rw [rInt_bad hs] at this
  exact this
theorem text_bad {base p : Nat} {xs : List Int} (m : Int) (W : World) (h : Rdr base p xs true W) : Calls Try.prog 23 #[.pointer (some ⟨p, 0, none⟩), .int .i64 m] W fun e W' => e = .returned (.string ⟨#[]⟩) ∧ Rdr base p xs true W' ∧ Puts p W W' := by
  have := text_f (base := base) (p := p) (xs, true) m W h
  rw [rText_bad m rfl] at this
  exact this
/-- The pairs that were put. -/
structure Got (l0 : List Int) (l1 : List ByteArray) (ps : List (Int × ByteArray)) : Prop where
  ok : ∀ q ∈ ps, Ok q
  n : ps.length ≤ 20
  le0 : ps.length ≤ l0.length
  le1 : ps.length ≤ l1.length
  at_ : ∀ (j : Nat), j < ps.length → ps[j]? = some (rd l0 (j : Int), rdOf ByteArray.empty l1 (j : Int))
theorem Got.snoc {l0 : List Int} {l1 : List ByteArray} {ps : List (Int × ByteArray)} (h : Got l0 l1 ps) {x : Int} (hx : x = (ps.length : Int)) (h0 : x < (l0.length : Int)) (h1 : x < (l1.length : Int)) (h2 : x < 20) (hq : Ok (rd l0 x, rdOf ByteArray.empty l1 x)) : Got l0 l1 (ps ++ [(rd l0 x, rdOf ByteArray.empty l1 x)]) := by
  subst hx
  refine ⟨fun q hm => ?_, by rw [List.length_append, List.length_singleton]; omega, by rw [List.length_append, List.length_singleton]; omega, by rw [List.length_append, List.length_singleton]; omega, fun j hj => ?_⟩
  · rcases List.mem_append.1 hm with hm | hm
    · exact h.ok q hm
    · rw [List.mem_singleton.1 hm]; exact hq
  · rcases Nat.lt_or_ge j ps.length with hl | hl
    · rw [List.getElem?_append_left hl]; exact h.at_ j hl
    · rw [List.length_append, List.length_singleton] at hj
      obtain rfl : j = ps.length := by omega
      simp
theorem Got.drop {l0 : List Int} {l1 : List ByteArray} {ps : List (Int × ByteArray)} (h : Got l0 l1 ps) {x : Int} (h0 : 0 ≤ x) (hx : x < (ps.length : Int)) : ps.drop x.toNat = (rd l0 x, rdOf ByteArray.empty l1 x) :: ps.drop (x + 1).toNat := by
  have hl : x.toNat < ps.length := by omega
  have := h.at_ x.toNat hl
  rw [List.drop_eq_getElem_cons hl]
  rw [List.getElem?_eq_getElem hl, Int.toNat_of_nonneg h0] at this
  rw [Option.some.inj this, show (x + 1).toNat = x.toNat + 1 by omega]
theorem Got.okx {l0 : List Int} {l1 : List ByteArray} {ps : List (Int × ByteArray)} (h : Got l0 l1 ps) {x : Int} (h0 : 0 ≤ x) (hx : x < (ps.length : Int)) : Ok (rd l0 x, rdOf ByteArray.empty l1 x) := by
  have : (rd l0 x, rdOf ByteArray.empty l1 x) ∈ ps.drop x.toNat := by rw [h.drop h0 hx]; exact List.mem_cons_self ..
  exact h.ok _ (List.mem_of_mem_drop this)
theorem rd_wf {l : List Int} (h : ∀ x ∈ l, (Lit.int .i64 x).wf = true) (i : Int) : -9223372036854775808 ≤ rd l i ∧ rd l i ≤ 9223372036854775807 := by
  by_cases hi : i.toNat < l.length
  · have := h (rd l i) (by simp [rd, List.getD_eq_getElem?_getD, hi])
    simpa [Lit.wf, IntKind.min, IntKind.max, IntKind.signed, IntKind.bits] using this
  · have : rd l i = 0 := by simp [rd, List.getD_eq_getElem?_getD, List.getElem?_eq_none (show l.length ≤ i.toNat by omega)]
    omega
theorem pcs_bd {ps : List (Int × ByteArray)} : ∀ x ∈ pcs ps, 0 ≤ x ∧ x ≤ 255 := by
  intro x hx
  simp only [pcs, List.mem_flatten, List.mem_map] at hx
  obtain ⟨l, ⟨q, _, rfl⟩, hx⟩ := hx
  simp only [pc, List.mem_append] at hx
  rcases hx with h | h | h
  · exact beN_bd _ _ x h
  · exact beN_bd _ _ x h
  · obtain ⟨b, _, rfl⟩ := List.mem_map.1 h
    have := UInt8.toNat_lt b
    omega
theorem end_good {base p : Nat} (W : World) (h : Rdr base p [] false W) : Calls Try.prog 26 #[.pointer (some ⟨p, 0, none⟩)] W fun e W' => e = .returned (.bool true) ∧ W' = W :=
  end_f (base := base) (p := p) ([], false) W h
theorem pcs_nil : pcs [] = [] := rfl
theorem CutOk.nil {s : List Int × Bool} (h : CutOk [] s) : s.2 = true := by
  rcases h with h | ⟨c, hc, _⟩
  · exact h
  · simp [pcs] at hc
theorem pcs_pos {ps : List (Int × ByteArray)} (h : ps.length ≠ 0) : 0 < (pcs ps).length := by
  cases ps with
  | nil => simp at h
  | cons q l => rw [pcs_cons, List.length_append, pc_len]; omega
end BackB
open BackB
def OctetBack.T5 : Bool × List (List Nat × List Nat) := (true, [([], []), ([], []), ([], []), ([1, 2], [1, 2]), ([3], [3]), ([0, 4], [0, 4]), ([], []), ([], []), ([6, 7], [6, 7]), ([8], [8]), ([5, 9, 5], [5, 9]), ([10], [10]), ([11], [11]), ([11], [11]), ([12, 10, 0, 1, 2, 3, 4, 5, 6, 7, 8, 9, 10, 11, 12], [12]), ([13, 14, 0, 1, 2, 3, 4, 5, 6, 7, 8, 9, 10, 11, 12, 13, 14], [13])])
def OctetBack.B5 : List Nat := [0, 0, 0, 6, 14, 31, 0, 0, 192, 448, 1023, 2047, 4095, 4095, 8191, 32767]
theorem OctetBack.tab5 : rtab .any (opsOf Try.f5 5) = OctetBack.T5 := by kernel_rfl
theorem OctetBack.bits5 : waitsOk OctetBack.T5.2 OctetBack.B5 = true := by kernel_rfl
def OctetBack.T14 : Bool × List (List Nat × List Nat) := (true, [([], []), ([0], [0]), ([], []), ([], []), ([2, 3], [2, 3]), ([4], [4]), ([1, 5], [1, 5]), ([6, 1], [6]), ([7], [7]), ([8, 7, 7], [7, 8]), ([7], [7]), ([7], [7]), ([10, 11, 7], [7, 10, 11]), ([12, 7], [7, 12]), ([9, 13, 7], [7, 9, 13]), ([7, 14], [7, 14])])
def OctetBack.B14 : List Nat := [0, 1, 0, 0, 12, 28, 63, 127, 255, 511, 255, 255, 3327, 7423, 16383, 32767]
theorem OctetBack.tab14 : rtab .any (opsOf Try.f5 14) = OctetBack.T14 := by kernel_rfl
theorem OctetBack.bits14 : waitsOk OctetBack.T14.2 OctetBack.B14 = true := by kernel_rfl
set_option maxHeartbeats 8000000 in
set_option maxRecDepth 100000 in
theorem prebendlaw03_OctetBack.walk (P : prebendlaw03_OctetBack.Pure) (A0 : Option Addr) (c0 : Nat) (l0 : List Int) (A1 : Option Addr) (c1 : Nat) (l1 : List ByteArray) (a2 : Int) (w : World) (hr0 : Kd.C (Kd.int .i64) w A0 l0.length l0) (hc0 : l0.length ≤ c0) (hr1 : Kd.C Kd.string w A1 l1.length l1) (hc1 : l1.length ≤ c1) (g0 : l0.length ≤ maxLen ∧ ∀ x ∈ l0, (Lit.int .i64 x).wf = true) (y0 : l0.length * 8 ≤ 140737488351232) (g1 : l1.length ≤ maxLen ∧ ∀ x ∈ l1, x.size ≤ maxLen) (w2_ : (Lit.int .u16 a2).wf = true) :
    Calls Try.prog 5 #[.slice A0 l0.length c0, .slice A1 l1.length c1, .int .u16 a2] w fun e w' => e = .returned (.bool true) ∧ Below w.heap.size w w' := by
  have hwf : Aside0 (∀ i : Int, -9223372036854775808 ≤ rd l0 i ∧ rd l0 i ≤ 9223372036854775807) := ⟨fun i => rd_wf g0.2 i⟩
  have ha2 : Aside0 (0 ≤ a2 ∧ a2 ≤ 65535) := ⟨by simpa [Lit.wf, IntKind.min, IntKind.max, IntKind.signed, IntKind.bits] using w2_⟩
  have hl0 : Aside0 (l0.length ≤ 9223372036854775807 ∧ l1.length ≤ 9223372036854775807) := ⟨by have h0 := g0.1; have h1 := g1.1; unfold maxLen at h0 h1; omega⟩
  have HR0 := Aside0.mk hr0
  have HR1 := Aside0.mk hr1
  have HB := Aside0.mk (Below.refl w.heap.size w)
  clear hr0 hc0 hr1 hc1 g0 y0 g1 w2_ P
  go_enter Try.func5, Try.ntmps5
  go_upto_block 0 with fail
  go_cut [7, 8] (fun v7 v8 wc => ∃ (x8 : Int) (A : Option Addr) (c : Nat) (b : List Int) (ps : List (Int × ByteArray)), v7 = .slice A b.length c ∧ v8 = .int .i64 x8 ∧ Aside0 (x8 = (ps.length : Int) ∧ b = pcs ps) ∧ Aside0 (Got l0 l1 ps) ∧ Aside0 (Kd.V (Kd.int .u8) 5 wc 0 (fun _ => True) (.slice A b.length c) b) ∧ Aside0 (Below w.heap.size w wc))
  case first =>
    go_wp2_with fail
    go_loopg [7, 8] 20 (fun kq v7 v8 w' => ∃ (x8 : Int) (A : Option Addr) (c : Nat) (b : List Int) (ps : List (Int × ByteArray)), v7 = .slice A b.length c ∧ v8 = .int .i64 x8 ∧ Aside0 (x8 + kq = 20) ∧ Aside0 (x8 = (ps.length : Int) ∧ b = pcs ps) ∧ Aside0 (Got l0 l1 ps) ∧ Aside0 (Kd.V (Kd.int .u8) 5 w' 0 (fun _ => True) (.slice A b.length c) b) ∧ Aside0 (Below w.heap.size w w'))
    case atStart => exact ⟨0, _, _, [], [], rfl, rfl, ⟨rfl⟩, ⟨⟨rfl, rfl⟩⟩, ⟨⟨fun q h => by simp at h, by simp, by simp, by simp, fun j h => by simp at h⟩⟩, ⟨V_none _ _ _ _⟩, ⟨below_alloc HB.out _⟩⟩
    case round =>
      obtain ⟨x8, A, c, b, ps, rfl, rfl, HK, HX, HG, HV, HB2⟩ := hrel
      clear HB
      have hx0 : 0 ≤ x8 := by have := HX.out.1; omega
      by_cases d1 : x8 < (l0.length : Int)
      · have d1b : decide (x8 < (l0.length : Int)) = true := decide_eq_true d1
        by_cases d2 : x8 < (l1.length : Int)
        · have d2b : decide (x8 < (l1.length : Int)) = true := decide_eq_true d2
          by_cases d3 : x8 < 20
          · have d3b : decide (x8 < 20) = true := decide_eq_true d3
            obtain ⟨k1, rfl⟩ : ∃ k1, gk = k1 + 1 := ⟨gk - 1, by have := HK.out; omega⟩
            obtain ⟨ad0, ead0, hn0⟩ := Kd.at_int HR0.out x8 hx0 d1
            cases ead0
            obtain ⟨ad1, ead1, ht0⟩ := Kd.at_string HR1.out x8 hx0 d2
            cases ead1
            obtain ⟨n, hn⟩ : ∃ n, rd l0 x8 = n := ⟨_, rfl⟩
            obtain ⟨s, hs⟩ : ∃ s, rdOf ByteArray.empty l1 x8 = s := ⟨_, rfl⟩
            rw [hn] at hn0
            rw [hs] at ht0
            have hn1 := (HB2.out.cell (World.block_lt_of_cell? w _ hn0)).trans hn0
            have ht1 := (HB2.out.cell (World.block_lt_of_cell? w _ ht0)).trans ht0
            have HNN := Aside0.mk (And.intro hn hs)
            have HC := Aside0.mk (And.intro hn0 ht0)
            have HD := Aside0.mk (And.intro hx0 (And.intro d1 (And.intro d2 d3)))
            have p1 := eq_true hx0
            have q1 := eq_true d1
            have q2 := eq_true d2
            clear hx0 d1 d2 d3 hn hs hn0 ht0
            by_cases d4 : (s.size : Int) > 300
            · have d4b : decide (300 < (s.size : Int)) = true := decide_eq_true d4
              have d4c : decide (300 < s.size) = true := decide_eq_true (by omega)
              clear d4
              go_wp2
              go_meet
              case rel => exact ⟨x8, _, _, b, ps, rfl, rfl, HX, HG, HV, HB2⟩
            · have d4b : decide (300 < (s.size : Int)) = false := decide_eq_false d4
              have d4c : decide (300 < s.size) = false := decide_eq_false (by omega)
              have HS : Aside0 (s.size ≤ 300) := ⟨by omega⟩
              clear d4
              have hok : Ok (n, s) := ⟨by have := hwf.out x8; rw [HNN.out.1] at this; exact this, HS.out⟩
              have hlen : b.length ≤ 6200 := by have h1 := pcs_len HG.out.ok; have h2 := HG.out.n; rw [HX.out.2]; omega
              obtain ⟨b1, hb1⟩ : ∃ b1, b ++ beN 8 n = b1 := ⟨_, rfl⟩
              obtain ⟨b2, hb2⟩ : ∃ b2, b1 ++ (beN 2 (s.size : Int) ++ bytesOf s) = b2 := ⟨_, rfl⟩
              have HB22 : Aside0 (b2 = pcs (ps ++ [(n, s)])) := ⟨by rw [← hb2, ← hb1, pcs_snoc, HX.out.2]; simp [pc]⟩
              have HOK := Aside0.mk hok
              have K1 : Aside0 (∀ (W : World), Kd.V (Kd.int .u8) 5 W 0 (fun _ => True) (.slice A b.length c) b → Calls Try.prog 18 #[.slice A b.length c, .int .i64 n] W fun e w' => ∃ A c, e = .returned (.slice A b1.length c) ∧ Kd.V (Kd.int .u8) 5 w' 0 (fun k => W.heap.size ≤ k) (.slice A b1.length c) b1 ∧ Below W.heap.size W w') := ⟨fun W h => by rw [← hb1]; exact int_V A c b n W (Kd.V_reads' h).2.2 (Kd.V_reads' h).2.1 (by omega)⟩
              have K2 : Aside0 (∀ (W : World) (A : Option Addr) (c : Nat), Kd.V (Kd.int .u8) 5 W 0 (fun _ => True) (.slice A b1.length c) b1 → Calls Try.prog 16 #[.slice A b1.length c, .string s] W fun e w' => ∃ A c, e = .returned (.tuple #[.slice A b2.length c, .int .i64 0]) ∧ Kd.V (Kd.int .u8) 5 w' 0 (fun k => W.heap.size ≤ k) (.slice A b2.length c) b2 ∧ Below W.heap.size W w') := ⟨fun W A c h => by rw [← hb2]; exact text_V2 A c b1 s W (Kd.V_reads' h).2.2 (Kd.V_reads' h).2.1 HS.out (by rw [← hb1]; simp [beN_len]; omega)⟩
              clear hok hlen hb1 hb2
              go_upto_region 5 with (fail)
              refine start_ (n := 16) (S := fun w' => w'.cell? (ad0.add x8.toNat) = some (.int .i64 n) ∧ w'.cell? (ad1.add x8.toNat) = some (.string s)) (ds := []) #[false, false, false, false, false, false, false, false, false, false, false, false, false, false, false, false] (by kernel_rfl) rfl rfl (by have n_ := Aside0.mk (below_step HB2.out (below_drew (Below.refl _ _))); exact ⟨(n_.out.cell (World.block_lt_of_cell? w _ HC.out.1)).trans HC.out.1, (n_.out.cell (World.block_lt_of_cell? w _ HC.out.2)).trans HC.out.2⟩) (fun hHeld => ?_); refine with_tabW OctetBack.tab5 OctetBack.bits5 (fun HT_ HW_ => ?_)
              have n1_ := Aside0.mk (below_step HB2.out (below_drew (Below.refl _ _)))
              have n2_ := Aside0.mk (Kd.V_below HV.out (below_drew (Below.refl _ _)))
              clear HB2 HV
              have HB2 := n1_
              have HV := n2_
              clear n1_ n2_
              generalize wr.drew = wz at HB2 HV hHeld ⊢
              refine pure_ (i := 0) (N := some 37) (v := ?_) (a' := ?_) #[true, false, false, false, false, false, false, false, false, false, false, false, false, false, false, false] rfl rfl (any_of HT_.out (by kernel_rfl)) (fun _ _ _ h => h) (Or.inl ⟨by rfl, ?_⟩) ?_ ?_
              rotate_left
              · intro w'
                go_simp
                with_reducible rfl
              rotate_left
              · simp only [Act.put, List.setIfInBounds_toArray, List.set_cons_zero, List.set_cons_succ, i64_w, i32_w]
                rfl
              refine pure_ (i := 1) (N := some 38) (v := ?_) (a' := ?_) #[true, true, false, false, false, false, false, false, false, false, false, false, false, false, false, false] rfl rfl (any_of HT_.out (by kernel_rfl)) (fun _ _ _ h => h) (Or.inl ⟨by rfl, ?_⟩) ?_ ?_
              rotate_left
              · intro w'
                go_simp
                with_reducible rfl
              rotate_left
              · simp only [Act.put, List.setIfInBounds_toArray, List.set_cons_zero, List.set_cons_succ, i64_w, i32_w]
                rfl
              refine pure_ (i := 2) (N := some 39) (v := ?_) (a' := ?_) #[true, true, true, false, false, false, false, false, false, false, false, false, false, false, false, false] rfl rfl (any_of HT_.out (by kernel_rfl)) (fun _ _ _ h => h) (Or.inl ⟨by rfl, ?_⟩) ?_ ?_
              rotate_left
              · intro w'
                go_simp
                with_reducible rfl
              rotate_left
              · simp only [Act.put, List.setIfInBounds_toArray, List.set_cons_zero, List.set_cons_succ, i64_w, i32_w]
                rfl
              refine pure_ (i := 3) (N := some 40) (v := ?_) (a' := ?_) #[true, true, true, true, false, false, false, false, false, false, false, false, false, false, false, false] rfl rfl (any_of HT_.out (by kernel_rfl)) (fun _ _ _ h => h) (Or.inl ⟨by rfl, ?_⟩) ?_ ?_
              rotate_left
              · intro w'
                go_simp
                with_reducible rfl
              rotate_left
              · simp only [Act.put, List.setIfInBounds_toArray, List.set_cons_zero, List.set_cons_succ, i64_w, i32_w]
                rfl
              refine take_ (i := 4) (N := some 41) (v := ?_) (a' := ?_) #[true, true, true, true, true, false, false, false, false, false, false, false, false, false, false, false] rfl rfl (take_ofW HT_.out HW_.out (by kernel_rfl)) (fun _ _ _ h => h) (Or.inl ⟨by rfl, ?_⟩) hHeld ?_ ?_
              rotate_left
              · rintro w' hs_
                obtain ⟨s0, s1⟩ := hs_
                go_simp
                with_reducible rfl
              rotate_left
              · simp only [Act.put, List.setIfInBounds_toArray, List.set_cons_zero, List.set_cons_succ, i64_w, i32_w]
                rfl
              refine pure_ (i := 6) (N := some 43) (v := ?_) (a' := ?_) #[true, true, true, true, true, false, true, false, false, false, false, false, false, false, false, false] rfl rfl (any_of HT_.out (by kernel_rfl)) (fun _ _ _ h => h) (Or.inl ⟨by rfl, ?_⟩) ?_ ?_
              rotate_left
              · intro w'
                go_simp
                with_reducible rfl
              rotate_left
              · simp only [Act.put, List.setIfInBounds_toArray, List.set_cons_zero, List.set_cons_succ, i64_w, i32_w]
                rfl
              refine pure_ (i := 7) (N := some 44) (v := ?_) (a' := ?_) #[true, true, true, true, true, false, true, true, false, false, false, false, false, false, false, false] rfl rfl (any_of HT_.out (by kernel_rfl)) (fun _ _ _ h => h) (Or.inl ⟨by rfl, ?_⟩) ?_ ?_
              rotate_left
              · intro w'
                go_simp
                with_reducible rfl
              rotate_left
              · simp only [Act.put, List.setIfInBounds_toArray, List.set_cons_zero, List.set_cons_succ, i64_w, i32_w]
                rfl
              refine pure_ (i := 8) (N := some 45) (v := ?_) (a' := ?_) #[true, true, true, true, true, false, true, true, true, false, false, false, false, false, false, false] rfl rfl (any_of HT_.out (by kernel_rfl)) (fun _ _ _ h => h) (Or.inl ⟨by rfl, ?_⟩) ?_ ?_
              rotate_left
              · intro w'
                go_simp
                with_reducible rfl
              rotate_left
              · simp only [Act.put, List.setIfInBounds_toArray, List.set_cons_zero, List.set_cons_succ, i64_w, i32_w]
                rfl
              refine take_ (i := 9) (N := some 46) (v := ?_) (a' := ?_) #[true, true, true, true, true, false, true, true, true, true, false, false, false, false, false, false] rfl rfl (take_ofW HT_.out HW_.out (by kernel_rfl)) (fun _ _ _ h => h) (Or.inl ⟨by rfl, ?_⟩) hHeld ?_ ?_
              rotate_left
              · rintro w' hs_
                obtain ⟨s0, s1⟩ := hs_
                go_simp
                with_reducible rfl
              rotate_left
              · simp only [Act.put, List.setIfInBounds_toArray, List.set_cons_zero, List.set_cons_succ, i64_w, i32_w]
                rfl
              refine one_ (i := 5) (N := some 42) #[true, true, true, true, true, true, true, true, true, true, false, false, false, false, false, false] rfl rfl (one_of HT_.out (by kernel_rfl)) (by decide) (fun K hK => ?_)
              refine goes_ Try.func18 (by kernel_rfl) rfl #[.slice A b.length c, .int .i64 n] (by rfl) rfl rfl (by (try simp only [List.map_toArray, List.map_cons, List.map_nil]); first | done | rfl | (simp only [List.length_drop, List.length_take]; rfl)) ?_
              with_reducible refine (K1.out _ HV.out).mono ?_
              rintro e wq1 ⟨A3, c3, rfl, hv, hb⟩; have n_ := Aside0.mk (below_step HB2.out hb); have HV3 := Aside0.mk (Kd.V_mono (ok' := fun _ => True) hv (fun _ _ => trivial)); clear HB2 HV; have HB2 := n_; clear n_ hb hv
              refine ⟨_, rfl, ?_⟩
              refine hK.out _ _ ⟨(HB2.out.cell (World.block_lt_of_cell? w _ HC.out.1)).trans HC.out.1, (HB2.out.cell (World.block_lt_of_cell? w _ HC.out.2)).trans HC.out.2⟩ (fun hHeld => ?_)
              clear hK K
              refine norm_ (a' := ?_) ?_ ?_
              rotate_left
              · show Act.put _ (some 42) _ = _
                simp only [Act.put, List.setIfInBounds_toArray, List.set_cons_zero, List.set_cons_succ, i64_w, i32_w]
                rfl
              refine one_ (i := 10) (N := some 47) #[true, true, true, true, true, true, true, true, true, true, true, false, false, false, false, false] rfl rfl (one_of HT_.out (by kernel_rfl)) (by decide) (fun K hK => ?_)
              refine goes_ Try.func16 (by kernel_rfl) rfl #[.slice A3 b1.length c3, .string s] (by rfl) rfl rfl (by (try simp only [List.map_toArray, List.map_cons, List.map_nil]); first | done | rfl | (simp only [List.length_drop, List.length_take]; rfl)) ?_
              with_reducible refine (K2.out _ _ _ HV3.out).mono ?_
              rintro e wq2 ⟨A4, c4, rfl, hv, hb⟩; have n_ := Aside0.mk (below_step HB2.out hb); have HV4 := Aside0.mk (Kd.V_mono (ok' := fun _ => True) hv (fun _ _ => trivial)); clear HB2 HV3; have HB2 := n_; clear n_ hb hv
              refine ⟨_, rfl, ?_⟩
              refine hK.out _ _ ⟨(HB2.out.cell (World.block_lt_of_cell? w _ HC.out.1)).trans HC.out.1, (HB2.out.cell (World.block_lt_of_cell? w _ HC.out.2)).trans HC.out.2⟩ (fun hHeld => ?_)
              clear hK K
              refine norm_ (a' := ?_) ?_ ?_
              rotate_left
              · show Act.put _ (some 47) _ = _
                simp only [Act.put, List.setIfInBounds_toArray, List.set_cons_zero, List.set_cons_succ, i64_w, i32_w]
                rfl
              refine pure_ (i := 11) (N := some 36) (v := ?_) (a' := ?_) #[true, true, true, true, true, true, true, true, true, true, true, true, false, false, false, false] rfl rfl (any_of HT_.out (by kernel_rfl)) (fun _ _ _ h => h) (Or.inl ⟨by rfl, ?_⟩) ?_ ?_
              rotate_left
              · intro w'
                go_simp
                with_reducible rfl
              rotate_left
              · simp only [Act.put, List.setIfInBounds_toArray, List.set_cons_zero, List.set_cons_succ, i64_w, i32_w]
                rfl
              refine pure_ (i := 12) (N := some 48) (v := ?_) (a' := ?_) #[true, true, true, true, true, true, true, true, true, true, true, true, true, false, false, false] rfl rfl (any_of HT_.out (by kernel_rfl)) (fun _ _ _ h => h) (Or.inl ⟨by rfl, ?_⟩) ?_ ?_
              rotate_left
              · intro w'
                go_simp
                with_reducible rfl
              rotate_left
              · simp only [Act.put, List.setIfInBounds_toArray, List.set_cons_zero, List.set_cons_succ, i64_w, i32_w]
                rfl
              refine pure_ (i := 13) (N := some 49) (v := ?_) (a' := ?_) #[true, true, true, true, true, true, true, true, true, true, true, true, true, true, false, false] rfl rfl (any_of HT_.out (by kernel_rfl)) (fun _ _ _ h => h) (Or.inl ⟨by rfl, ?_⟩) ?_ ?_
              rotate_left
              · intro w'
                go_simp
                with_reducible rfl
              rotate_left
              · simp only [Act.put, List.setIfInBounds_toArray, List.set_cons_zero, List.set_cons_succ, i64_w, i32_w]
                rfl
              refine pure_ (i := 14) (N := some 9) (v := ?_) (a' := ?_) #[true, true, true, true, true, true, true, true, true, true, true, true, true, true, true, false] rfl rfl (any_of HT_.out (by kernel_rfl)) (fun _ _ _ h => h) (Or.inl ⟨by rfl, ?_⟩) ?_ ?_
              rotate_left
              · intro w'
                go_simp
                with_reducible rfl
              rotate_left
              · simp only [Act.put, List.setIfInBounds_toArray, List.set_cons_zero, List.set_cons_succ, i64_w, i32_w]
                rfl
              refine pure_ (i := 15) (N := some 10) (v := ?_) (a' := ?_) #[true, true, true, true, true, true, true, true, true, true, true, true, true, true, true, true] rfl rfl (any_of HT_.out (by kernel_rfl)) (fun _ _ _ h => h) (Or.inl ⟨by rfl, ?_⟩) ?_ ?_
              rotate_left
              · intro w'
                go_simp
                with_reducible rfl
              rotate_left
              · simp only [Act.put, List.setIfInBounds_toArray, List.set_cons_zero, List.set_cons_succ, i64_w, i32_w]
                rfl
              refine done_ (done_of HT_.out (by kernel_rfl)) ?_
              try go_wp2
              go_roundg k1
              case measure => omega
              case rel => exact ⟨x8 + 1, A4, c4, b2, ps ++ [(n, s)], rfl, by rw [show wrap64 (x8 + 1) = x8 + 1 by have := HD.out; unfold wrap64; omega], ⟨by have := HK.out; omega⟩, ⟨⟨by have := HX.out.1; simp; omega, HB22.out⟩⟩, ⟨by have := HG.out.snoc HX.out.1 HD.out.2.1 HD.out.2.2.1 HD.out.2.2.2 (by rw [HNN.out.1, HNN.out.2]; exact HOK.out); rwa [HNN.out.1, HNN.out.2] at this⟩, HV4, HB2⟩
          · have d3b : decide (x8 < 20) = false := decide_eq_false d3
            clear d1 d2 d3
            go_wp2
            go_meet
            case rel => exact ⟨x8, _, _, b, ps, rfl, rfl, HX, HG, HV, HB2⟩
        · have d2b : decide (x8 < (l1.length : Int)) = false := decide_eq_false d2
          clear d1 d2
          go_wp2
          go_meet
          case rel => exact ⟨x8, _, _, b, ps, rfl, rfl, HX, HG, HV, HB2⟩
      · have d1b : decide (x8 < (l0.length : Int)) = false := decide_eq_false d1
        clear d1
        go_wp2
        go_meet
        case rel => exact ⟨x8, _, _, b, ps, rfl, rfl, HX, HG, HV, HB2⟩
  case rest =>
    clear HB
    obtain ⟨x8, A, c, b, ps, rfl, rfl, HX, HG, HV, HB⟩ := hcut
    have hbb : Aside0 (∀ y ∈ b, 0 ≤ y ∧ y ≤ 255) := ⟨by rw [HX.out.2]; exact pcs_bd⟩
    have hbl : Aside0 (b.length ≤ 6200) := ⟨by have h1 := pcs_len HG.out.ok; have h2 := HG.out.n; rw [HX.out.2]; omega⟩
    go_wp2_with (first | (go_at_call 21; (with_reducible refine (new_f A c b _ (Kd.V_reads' HV.out).2.2 (Kd.V_reads' HV.out).2.1 hbb.out (by have := hbl.out; omega)).mono ?_); rintro e w2 ⟨p, rfl, hp, hr, hb⟩; have n1_ := Aside0.mk (Kd.V_mono (ok' := fun k => k ≠ p) (Kd.V_below (Kd.V_elderB HV.out p hp) hb) (fun k hk => hk.2)); have HP := Aside0.mk (Nat.le_trans (below_size HB.out) hp); have n2_ := Aside0.mk (below_step HB.out hb); have HRD := Aside0.mk (by rw [HX.out.2] at hr; exact hr : Rdr wc.heap.size p (pcs ps) false w2); clear HV HB; have HV := n1_; have HB := n2_; clear n1_ n2_ hp hr hb))
    go_loopg [12] ps.length (fun kq v12 w' => ∃ x12 : Int, v12 = .int .i64 x12 ∧ Aside0 (0 ≤ x12 ∧ x12 + kq = (ps.length : Int)) ∧ Aside0 (Rdr wc.heap.size p (pcs (ps.drop x12.toNat)) false w') ∧ Aside0 (Kd.V (Kd.int .u8) 5 w' 0 (fun k => k ≠ p) (.slice A b.length c) b) ∧ Aside0 (Below w.heap.size w w'))
    case atStart => exact ⟨0, rfl, ⟨by omega⟩, HRD, HV, HB⟩
    case round =>
      clear HRD HV HB
      obtain ⟨x12, rfl, HK, HRD, HV, HB⟩ := hrel
      have hx0 : 0 ≤ x12 := HK.out.1
      by_cases d1 : x12 < x8
      · have d1b : decide (x12 < x8) = true := decide_eq_true d1
        have hxp : x12 < (ps.length : Int) := by have := HX.out.1; omega
        obtain ⟨k1, rfl⟩ : ∃ k1, gk = k1 + 1 := ⟨gk - 1, by have := HK.out; omega⟩
        have hd1 : x12 < (l0.length : Int) := by have := HG.out.le0; omega
        have hd2 : x12 < (l1.length : Int) := by have := HG.out.le1; omega
        obtain ⟨ad0, ead0, hn0⟩ := Kd.at_int HR0.out x12 hx0 hd1
        cases ead0
        obtain ⟨ad1, ead1, ht0⟩ := Kd.at_string HR1.out x12 hx0 hd2
        cases ead1
        have hok := HG.out.okx hx0 hxp
        have hdr := HG.out.drop hx0 hxp
        obtain ⟨n, hn⟩ : ∃ n, rd l0 x12 = n := ⟨_, rfl⟩
        obtain ⟨s, hs⟩ : ∃ s, rdOf ByteArray.empty l1 x12 = s := ⟨_, rfl⟩
        rw [hn] at hn0
        rw [hs] at ht0
        rw [hn, hs] at hok hdr
        have hn1 := (HB.out.cell (World.block_lt_of_cell? w _ hn0)).trans hn0
        have ht1 := (HB.out.cell (World.block_lt_of_cell? w _ ht0)).trans ht0
        have n1_ : Aside0 (Rdr wc.heap.size p (pc (n, s) ++ pcs (ps.drop (x12 + 1).toNat)) false wr) := ⟨by have := HRD.out; rwa [hdr, pcs_cons] at this⟩
        clear HRD
        have HRD := n1_
        have HC := Aside0.mk (And.intro hn0 ht0)
        have HD := Aside0.mk (And.intro hx0 hd1)
        have HOK := Aside0.mk hok
        have p1 := eq_true hx0
        have q1 := eq_true hd1
        have q2 := eq_true hd2
        clear hx0 d1 hxp hd1 hd2 hn hs hn0 ht0 hok hdr n1_
        go_upto_region 14 with (fail)
        refine start_ (n := 16) (S := fun w' => w'.cell? (ad0.add x12.toNat) = some (.int .i64 n) ∧ w'.cell? (ad1.add x12.toNat) = some (.string s)) (ds := []) #[false, false, false, false, false, false, false, false, false, false, false, false, false, false, false, false] (by kernel_rfl) rfl rfl (by have n_ := Aside0.mk (below_step HB.out (below_drew (Below.refl _ _))); exact ⟨(n_.out.cell (World.block_lt_of_cell? w _ HC.out.1)).trans HC.out.1, (n_.out.cell (World.block_lt_of_cell? w _ HC.out.2)).trans HC.out.2⟩) (fun hHeld => ?_); refine with_tabW OctetBack.tab14 OctetBack.bits14 (fun HT_ HW_ => ?_)
        have n1_ := Aside0.mk (below_step HB.out (below_drew (Below.refl _ _)))
        have n2_ := Aside0.mk (Kd.V_below HV.out (below_drew (Below.refl _ _)))
        have n3_ := Aside0.mk (HRD.out.below (below_drew (Below.refl _ _)))
        clear HB HV HRD
        have HB := n1_
        have HV := n2_
        have HRD := n3_
        clear n1_ n2_ n3_
        generalize wr.drew = wz at HB HV HRD hHeld ⊢
        refine pure_ (i := 0) (N := some 62) (v := ?_) (a' := ?_) #[true, false, false, false, false, false, false, false, false, false, false, false, false, false, false, false] rfl rfl (any_of HT_.out (by kernel_rfl)) (fun _ _ _ h => h) (Or.inl ⟨by rfl, ?_⟩) ?_ ?_
        rotate_left
        · intro w'
          go_simp
          with_reducible rfl
        rotate_left
        · simp only [Act.put, List.setIfInBounds_toArray, List.set_cons_zero, List.set_cons_succ, i64_w, i32_w]
          rfl
        refine pure_ (i := 2) (N := some 64) (v := ?_) (a' := ?_) #[true, false, true, false, false, false, false, false, false, false, false, false, false, false, false, false] rfl rfl (any_of HT_.out (by kernel_rfl)) (fun _ _ _ h => h) (Or.inl ⟨by rfl, ?_⟩) ?_ ?_
        rotate_left
        · intro w'
          go_simp
          with_reducible rfl
        rotate_left
        · simp only [Act.put, List.setIfInBounds_toArray, List.set_cons_zero, List.set_cons_succ, i64_w, i32_w]
          rfl
        refine pure_ (i := 3) (N := some 65) (v := ?_) (a' := ?_) #[true, false, true, true, false, false, false, false, false, false, false, false, false, false, false, false] rfl rfl (any_of HT_.out (by kernel_rfl)) (fun _ _ _ h => h) (Or.inl ⟨by rfl, ?_⟩) ?_ ?_
        rotate_left
        · intro w'
          go_simp
          with_reducible rfl
        rotate_left
        · simp only [Act.put, List.setIfInBounds_toArray, List.set_cons_zero, List.set_cons_succ, i64_w, i32_w]
          rfl
        refine pure_ (i := 4) (N := some 66) (v := ?_) (a' := ?_) #[true, false, true, true, true, false, false, false, false, false, false, false, false, false, false, false] rfl rfl (any_of HT_.out (by kernel_rfl)) (fun _ _ _ h => h) (Or.inl ⟨by rfl, ?_⟩) ?_ ?_
        rotate_left
        · intro w'
          go_simp
          with_reducible rfl
        rotate_left
        · simp only [Act.put, List.setIfInBounds_toArray, List.set_cons_zero, List.set_cons_succ, i64_w, i32_w]
          rfl
        refine take_ (i := 5) (N := some 67) (v := ?_) (a' := ?_) #[true, false, true, true, true, true, false, false, false, false, false, false, false, false, false, false] rfl rfl (take_ofW HT_.out HW_.out (by kernel_rfl)) (fun _ _ _ h => h) (Or.inl ⟨by rfl, ?_⟩) hHeld ?_ ?_
        rotate_left
        · rintro w' hs_
          obtain ⟨s0, s1⟩ := hs_
          go_simp
          with_reducible rfl
        rotate_left
        · simp only [Act.put, List.setIfInBounds_toArray, List.set_cons_zero, List.set_cons_succ, i64_w, i32_w]
          rfl
        refine one_ (i := 1) (N := some 63) #[true, true, true, true, true, true, false, false, false, false, false, false, false, false, false, false] rfl rfl (one_of HT_.out (by kernel_rfl)) (by decide) (fun K hK => ?_)
        refine goes_ Try.func25 (by kernel_rfl) rfl #[.pointer (some ⟨p, 0, none⟩)] (by rfl) rfl rfl (by (try simp only [List.map_toArray, List.map_cons, List.map_nil]); first | done | rfl | (simp only [List.length_drop, List.length_take]; rfl)) ?_
        with_reducible refine (rd_pair1 HOK.out _ HRD.out).mono ?_
        rintro e wq1 ⟨rfl, hr, hp⟩; have n1_ := Aside0.mk (V_puts HV.out hp); have n2_ := Aside0.mk (hp.below HP.out HB.out); clear HB HV HRD; have HB := n2_; have HV := n1_; have HRD := Aside0.mk hr; clear n1_ n2_ hr hp
        refine ⟨_, rfl, ?_⟩
        refine hK.out _ _ ⟨(HB.out.cell (World.block_lt_of_cell? w _ HC.out.1)).trans HC.out.1, (HB.out.cell (World.block_lt_of_cell? w _ HC.out.2)).trans HC.out.2⟩ (fun hHeld => ?_)
        clear hK K
        refine norm_ (a' := ?_) ?_ ?_
        rotate_left
        · show Act.put _ (some 63) _ = _
          simp only [Act.put, List.setIfInBounds_toArray, List.set_cons_zero, List.set_cons_succ, i64_w, i32_w]
          rfl
        refine pure_ (i := 6) (N := some 68) (v := ?_) (a' := ?_) #[true, true, true, true, true, true, true, false, false, false, false, false, false, false, false, false] rfl rfl (any_of HT_.out (by kernel_rfl)) (fun _ _ _ h => h) (Or.inl ⟨by rfl, ?_⟩) ?_ ?_
        rotate_left
        · intro w'
          go_simp
          with_reducible rfl
        rotate_left
        · simp only [Act.put, List.setIfInBounds_toArray, List.set_cons_zero, List.set_cons_succ, i64_w, i32_w]
          rfl
        refine pure_ (i := 7) (N := some 69) (v := ?_) (a' := ?_) #[true, true, true, true, true, true, true, true, false, false, false, false, false, false, false, false] rfl rfl (any_of HT_.out (by kernel_rfl)) (fun _ _ _ h => h) (Or.inl ⟨by rfl, ?_⟩) ?_ ?_
        rotate_left
        · intro w'
          go_simp
          with_reducible rfl
        rotate_left
        · simp only [Act.put, List.setIfInBounds_toArray, List.set_cons_zero, List.set_cons_succ, i64_w, i32_w]
          rfl
        refine pure_ (i := 8) (N := some 70) (v := ?_) (a' := ?_) #[true, true, true, true, true, true, true, true, true, false, false, false, false, false, false, false] rfl rfl (any_of HT_.out (by kernel_rfl)) (fun _ _ _ h => h) (Or.inl ⟨by rfl, ?_⟩) ?_ ?_
        rotate_left
        · intro w'
          go_simp
          with_reducible rfl
        rotate_left
        · simp only [Act.put, List.setIfInBounds_toArray, List.set_cons_zero, List.set_cons_succ, i64_w, i32_w]
          rfl
        refine pure_ (i := 10) (N := some 72) (v := ?_) (a' := ?_) #[true, true, true, true, true, true, true, true, true, false, true, false, false, false, false, false] rfl rfl (any_of HT_.out (by kernel_rfl)) (fun _ _ _ h => h) (Or.inl ⟨by rfl, ?_⟩) ?_ ?_
        rotate_left
        · intro w'
          go_simp
          with_reducible rfl
        rotate_left
        · simp only [Act.put, List.setIfInBounds_toArray, List.set_cons_zero, List.set_cons_succ, i64_w, i32_w]
          rfl
        refine pure_ (i := 11) (N := some 73) (v := ?_) (a' := ?_) #[true, true, true, true, true, true, true, true, true, false, true, true, false, false, false, false] rfl rfl (any_of HT_.out (by kernel_rfl)) (fun _ _ _ h => h) (Or.inl ⟨by rfl, ?_⟩) ?_ ?_
        rotate_left
        · intro w'
          go_simp
          with_reducible rfl
        rotate_left
        · simp only [Act.put, List.setIfInBounds_toArray, List.set_cons_zero, List.set_cons_succ, i64_w, i32_w]
          rfl
        refine pure_ (i := 12) (N := some 74) (v := ?_) (a' := ?_) #[true, true, true, true, true, true, true, true, true, false, true, true, true, false, false, false] rfl rfl (any_of HT_.out (by kernel_rfl)) (fun _ _ _ h => h) (Or.inl ⟨by rfl, ?_⟩) ?_ ?_
        rotate_left
        · intro w'
          go_simp
          with_reducible rfl
        rotate_left
        · simp only [Act.put, List.setIfInBounds_toArray, List.set_cons_zero, List.set_cons_succ, i64_w, i32_w]
          rfl
        refine take_ (i := 13) (N := some 75) (v := ?_) (a' := ?_) #[true, true, true, true, true, true, true, true, true, false, true, true, true, true, false, false] rfl rfl (take_ofW HT_.out HW_.out (by kernel_rfl)) (fun _ _ _ h => h) (Or.inl ⟨by rfl, ?_⟩) hHeld ?_ ?_
        rotate_left
        · rintro w' hs_
          obtain ⟨s0, s1⟩ := hs_
          go_simp
          with_reducible rfl
        rotate_left
        · simp only [Act.put, List.setIfInBounds_toArray, List.set_cons_zero, List.set_cons_succ, i64_w, i32_w]
          rfl
        refine one_ (i := 9) (N := some 71) #[true, true, true, true, true, true, true, true, true, true, true, true, true, true, false, false] rfl rfl (one_of HT_.out (by kernel_rfl)) (by decide) (fun K hK => ?_)
        refine goes_ Try.func23 (by kernel_rfl) rfl #[.pointer (some ⟨p, 0, none⟩), .int .i64 300] (by rfl) rfl rfl (by (try simp only [List.map_toArray, List.map_cons, List.map_nil]); first | done | rfl | (simp only [List.length_drop, List.length_take]; rfl)) ?_
        with_reducible refine (rd_pair2 HOK.out _ HRD.out).mono ?_
        rintro e wq2 ⟨rfl, hr, hp⟩; have n1_ := Aside0.mk (V_puts HV.out hp); have n2_ := Aside0.mk (hp.below HP.out HB.out); clear HB HV HRD; have HB := n2_; have HV := n1_; have HRD := Aside0.mk hr; clear n1_ n2_ hr hp
        refine ⟨_, rfl, ?_⟩
        refine hK.out _ _ ⟨(HB.out.cell (World.block_lt_of_cell? w _ HC.out.1)).trans HC.out.1, (HB.out.cell (World.block_lt_of_cell? w _ HC.out.2)).trans HC.out.2⟩ (fun hHeld => ?_)
        clear hK K
        refine norm_ (a' := ?_) ?_ ?_
        rotate_left
        · show Act.put _ (some 71) _ = _
          simp only [Act.put, List.setIfInBounds_toArray, List.set_cons_zero, List.set_cons_succ, i64_w, i32_w]
          rfl
        refine pure_ (i := 14) (N := some 76) (v := ?_) (a' := ?_) #[true, true, true, true, true, true, true, true, true, true, true, true, true, true, true, false] rfl rfl (any_of HT_.out (by kernel_rfl)) (fun _ _ _ h => h) (Or.inl ⟨by rfl, ?_⟩) ?_ ?_
        rotate_left
        · intro w'
          go_simp
          with_reducible rfl
        rotate_left
        · simp only [Act.put, List.setIfInBounds_toArray, List.set_cons_zero, List.set_cons_succ, i64_w, i32_w]
          rfl
        refine pure_ (i := 15) (N := some 77) (v := ?_) (a' := ?_) #[true, true, true, true, true, true, true, true, true, true, true, true, true, true, true, true] rfl rfl (any_of HT_.out (by kernel_rfl)) (fun _ _ _ h => h) (Or.inl ⟨by rfl, ?_⟩) ?_ ?_
        rotate_left
        · intro w'
          go_simp
          with_reducible rfl
        rotate_left
        · simp only [Act.put, List.setIfInBounds_toArray, List.set_cons_zero, List.set_cons_succ, i64_w, i32_w]
          rfl
        refine done_ (done_of HT_.out (by kernel_rfl)) ?_
        try go_wp2
        go_roundg k1
        case measure => omega
        case rel => exact ⟨x12 + 1, by rw [show wrap64 (x12 + 1) = x12 + 1 by have := HD.out; have := hl0.out; unfold wrap64; omega], ⟨by have := HK.out; omega⟩, HRD, HV, HB⟩
      · have d1b : decide (x12 < x8) = false := decide_eq_false d1
        have n1_ : Aside0 (Rdr wc.heap.size p [] false wr) := ⟨by have h := HRD.out; have h1 := HX.out.1; have h2 := HK.out; rwa [List.drop_eq_nil_of_le (by omega), pcs_nil] at h⟩
        clear HRD d1
        have HRD := n1_
        clear n1_
        by_cases d5 : x8 = 0
        · have d5b : (x8 == 0) = true := by simp [d5]
          clear d5
          go_wp2_with (first | (go_at_call 26; (with_reducible refine (end_good _ HRD.out).mono ?_); rintro e w4 ⟨rfl, rfl⟩) | (go_at_call 17; (with_reducible refine (prebendlaw03_awake.true_ _).mono ?_); rintro e w5 ⟨rfl, hb⟩; have n2_ := Aside0.mk (below_step HB.out hb); clear HB; have HB := n2_; clear n2_ hb))
          go_ret
          exact ⟨by simp, HB.out⟩
        · have d5b : (x8 == 0) = false := by simp [d5]
          have hps : ps.length ≠ 0 := by have := HX.out.1; omega
          have hpos : 0 < b.length := by rw [HX.out.2]; exact pcs_pos hps
          obtain ⟨m, hm, hmb⟩ : ∃ m : Nat, a2.tmod (b.length : Int) = (m : Int) ∧ m < b.length := ⟨(a2 % (b.length : Int)).toNat, by
            rw [Int.tmod_eq_emod_of_nonneg ha2.out.1]; have := Int.emod_nonneg a2 (show (b.length : Int) ≠ 0 by omega); omega, by
            have h1 := Int.emod_nonneg a2 (show (b.length : Int) ≠ 0 by omega); have h2 := Int.emod_lt_of_pos a2 (show 0 < (b.length : Int) by omega); omega⟩
          obtain ⟨bm, hbm⟩ : ∃ bm, b.take m = bm := ⟨_, rfl⟩
          have hbml : bm.length = m := by rw [← hbm, List.length_take]; omega
          rw [← hbml] at hm
          have hw2 : wrap64 a2 = a2 := by have := ha2.out; unfold wrap64; omega
          have hw3 : wrap64 (bm.length : Int) = (bm.length : Int) := by have := hbl.out; unfold wrap64; omega
          have hz : ((b.length : Int) == 0) = false := by simp; intro h; rw [h] at hpos; simp at hpos
          have hz2 : ((b.length : Int) = 0) = False := by simp; intro h; rw [h] at hpos; simp at hpos
          obtain ⟨i06, hi06, _, hsz6, _⟩ := info_parts info5
          have hcut6 := cut_to (P := Try.prog) 22 5 .i64 Try.underlying22 hi06 A b.length c (bm.length : Int) (by omega) (by omega) (Kd.V_reads' HV.out).2.1
          rw [Int.toNat_natCast] at hcut6
          have HCM : Aside0 (Kd.C (Kd.int .u8) wr A bm.length bm) := ⟨by
            have := Kd.C_take (Kd.V_reads' HV.out).2.2 (show m ≤ b.length by omega)
            rwa [hbm] at this⟩
          have HCM2 : Aside0 (bm.length ≤ c) := ⟨by have := (Kd.V_reads' HV.out).2.1; omega⟩
          have hbb2 : Aside0 (∀ y ∈ bm, 0 ≤ y ∧ y ≤ 255) := ⟨fun y hy => hbb.out y (List.mem_of_mem_take (hbm ▸ hy))⟩
          have HCK : Aside0 (CutOk ps (bm, false)) := ⟨.inr ⟨m, by rw [← HX.out.2]; exact hmb, by rw [← hbm, HX.out.2]⟩⟩
          have HBL2 : Aside0 (bm.length ≤ 6200) := ⟨by have := hbl.out; omega⟩
          clear d5 hps hbm hbml hi06 hsz6 hmb
          go_wp2_with (first | (go_at_call 26; (with_reducible refine (end_good _ HRD.out).mono ?_); rintro e w4 ⟨rfl, rfl⟩) | (go_at_call 21; (with_reducible refine (new_f A c bm _ HCM.out HCM2.out hbb2.out (by have := HBL2.out; omega)).mono ?_); rintro e w5 ⟨p2, rfl, hp, hr, hb⟩; have HP2 := Aside0.mk (Nat.le_trans (below_size HB.out) hp); have n2_ := Aside0.mk (below_step HB.out hb); clear HB HRD; have HB := n2_; have HRD := Aside0.mk hr; clear n2_ hb hr hp))
          go_loopg [14] ps.length (fun kq v14 w' => ∃ (x14 : Int) (s : List Int × Bool), v14 = .int .i64 x14 ∧ Aside0 (0 ≤ x14 ∧ x14 + kq = (ps.length : Int)) ∧ Aside0 (CutOk (ps.drop x14.toNat) s) ∧ Aside0 (Rdr w4.heap.size p2 s.1 s.2 w') ∧ Aside0 (Below w.heap.size w w'))
          case atStart => exact ⟨0, (bm, false), rfl, ⟨by omega⟩, HCK, HRD, HB⟩
          case round =>
            clear HRD HB HCK HV HCM
            obtain ⟨x14, s, rfl, HK3, HCK, HRD, HB⟩ := hrel
            by_cases d6 : x14 < x8
            · have d6b : decide (x14 < x8) = true := decide_eq_true d6
              have hx0 : 0 ≤ x14 := HK3.out.1
              have hxp : x14 < (ps.length : Int) := by have := HX.out.1; omega
              obtain ⟨k2, rfl⟩ : ∃ k2, gk = k2 + 1 := ⟨gk - 1, by have := HK3.out; omega⟩
              have hdr := HG.out.drop hx0 hxp
              have HCK2 : Aside0 (CutOk (ps.drop (x14 + 1).toNat) (rText (rInt s).2 300).2) := ⟨CutOk.step (by have := HCK.out; rwa [hdr] at this) (HG.out.okx hx0 hxp)⟩
              have e14 : wrap64 (x14 + 1) = x14 + 1 := by have := HG.out.n; unfold wrap64; omega
              clear hdr d6 hx0 hxp
              go_wp2_with (first | (go_at_call 25; (with_reducible refine (int_f s _ HRD.out).mono ?_); rintro e w6 ⟨rfl, hr, hp⟩; have n1_ := Aside0.mk hr; have n2_ := Aside0.mk (hp.below HP2.out HB.out); clear HRD HB; have HRD := n1_; have HB := n2_; clear n1_ n2_ hr hp) | (go_at_call 23; (with_reducible refine (text_f (rInt s).2 300 _ HRD.out).mono ?_); rintro e w7 ⟨rfl, hr, hp⟩; have n1_ := Aside0.mk hr; have n2_ := Aside0.mk (hp.below HP2.out HB.out); clear HRD HB; have HRD := n1_; have HB := n2_; clear n1_ n2_ hr hp))
              go_roundg k2
              case measure => omega
              case rel => exact ⟨x14 + 1, _, by rw [e14], ⟨by have := HK3.out; omega⟩, HCK2, HRD, HB⟩
            · have d6b : decide (x14 < x8) = false := decide_eq_false d6
              have HSB : Aside0 (s.2 = true) := ⟨by have h := HCK.out; have h1 := HX.out.1; have h2 := HK3.out; rw [List.drop_eq_nil_of_le (by omega)] at h; exact h.nil⟩
              clear d6
              go_wp2_with (first | (go_at_call 17; (with_reducible refine (prebendlaw03_awake.true_ _).mono ?_); rintro e w8 ⟨rfl, hb⟩; have n1_ := Aside0.mk (HRD.out.below hb); have n2_ := Aside0.mk (below_step HB.out hb); clear HRD HB; have HRD := n1_; have HB := n2_; clear n1_ n2_ hb) | (go_at_call 26; (with_reducible refine (end_bad _ HRD.out HSB.out).mono ?_); rintro e w9 ⟨rfl, rfl⟩) | (go_at_call 25; (with_reducible refine (int_bad _ HRD.out HSB.out).mono ?_); rintro e w10 ⟨rfl, hr, hp⟩; have n2_ := Aside0.mk (hp.below HP2.out HB.out); clear HB HRD; have HB := n2_; have HRD := Aside0.mk hr; clear n2_ hr hp) | (go_at_call 23; (with_reducible refine (text_bad 5 _ HRD.out).mono ?_); rintro e w11 ⟨rfl, hr, hp⟩; have n2_ := Aside0.mk (hp.below HP2.out HB.out); clear HB HRD; have HB := n2_; clear n2_ hr hp))
              go_ret
              exact ⟨by simp, HB.out⟩
end Go.Proofs.Ytjmkpcnekghmhaa.PAll
end
section
namespace Go.Proofs.Ytjmkpcnekghmhaa.PAll
open Go.RowKit Go.Proofs.YtjmkpcnekghmhaaW.PrintWords Go.Proofs.YtjmkpcnekghmhaaW.PrintLast Go.Proofs.YtjmkpcnekghmhaaW.PrintMore
attribute [local go_sem] max2_int min2_int max_two min_two max_three min_three max_four min_four   -- for this text's walks alone
set_option linter.unusedVariables false
set_option linter.unusedSimpArgs false

/-! ### prebendlaw03_OctetPuts: function 3 -/
-- beside prebendlaw03_awake.calls, prebendref03_Int.calls, prebendref03_Text.calls, octet_Int.calls, octet_Text.calls, octet_put.calls, slices_Clip_byte.calls, new_f
def prebendlaw03_OctetPuts.Pure : Prop := ∀ (l0 : List Int) (a1 : Int) (a2 : ByteArray), l0.length * 1 ≤ 140737488351232 → True
namespace PutsB
theorem clip_b (A : Option Addr) (n c : Nat) (w : World) (hc : n ≤ c) :
    Calls Try.prog 39 #[.slice A n c] w fun e w' => e = .returned (.slice A n n) ∧ w' = w := by
  have hcut := slices_Clip_byte.cut A n c hc
  go_enter Try.func39, Try.ntmps39
  go_wp2
  go_ret
  exact ⟨rfl, rfl⟩
/-- A number's bytes, the highest first. -/
def beN : Nat → Int → List Int
  | 0, _ => []
  | d + 1, v => (v / 2 ^ (8 * d) % 256) :: beN d v
theorem beN_len (v : Int) : ∀ d, (beN d v).length = d
  | 0 => rfl
  | d + 1 => by simp [beN, beN_len v d]
theorem put_run (v : Int) : ∀ (d : Nat) (xs : List Int), d ≤ 8 → xs.length + d < 140737488355328 → octet_put.l0 (d + 1) v ((d : Int) - 1) xs = some (xs ++ beN d v)
  | 0, xs, _, _ => by
    rw [octet_put.l0.eq_2, if_neg (by simp)]; simp [beN]
  | d + 1, xs, h, hl => by
    have e1 : wrap64 (8 * (((d + 1 : Nat) : Int) - 1)) = ((8 * d : Nat) : Int) := by unfold wrap64; omega
    have e2 : wrap64 ((((d + 1 : Nat) : Int) - 1) - 1) = (d : Int) - 1 := by unfold wrap64; omega
    have e3 : shr .i64 v ((8 * d : Nat) : Int) = v / 2 ^ (8 * d) := by
      have := shr_small (rfl : shr .i64 v ((8 * d : Nat) : Int) = shr .i64 v ((8 * d : Nat) : Int)) (by show ((8 * d : Nat) : Int) ≤ 64; omega)
      rw [Int.toNat_natCast] at this
      exact this.symm
    rw [octet_put.l0.eq_2, if_pos (by omega), e1, e2, if_pos (by omega), if_pos (by omega), e3, put_run v d _ (by omega) (by simp; omega)]
    simp [beN]
theorem int_be (l : List Int) (v : Int) (hl : l.length + 8 < 140737488355328) : octet_Int.f 9 l v = some (l ++ beN 8 v) := by
  have e : wrap64 (8 - 1) = ((8 : Nat) : Int) - 1 := by decide +kernel
  have h := put_run v 8 l (by omega) hl
  unfold octet_Int.f octet_put.f
  have h1 : slices_Clone_byte.f l = some l := by unfold slices_Clone_byte.f; simp only [Option.bind_some]; rw [if_pos (by simp; omega)]; rfl
  have h2 : slices_Grow_byte.f l 8 = some l := by unfold slices_Grow_byte.f; rw [if_pos (by omega), if_pos (by omega)]
  rw [h1, Option.bind_some, h2, Option.bind_some, e, h]
  rfl
theorem be_num (bs : List Int) (hb : ∀ x ∈ bs, 0 ≤ x ∧ x ≤ 255) (hl : bs.length = 8) : beN 8 (numS bs 0) = bs := by
  obtain ⟨c0, c1, c2, c3, c4, c5, c6, c7, rfl⟩ : ∃ c0 c1 c2 c3 c4 c5 c6 c7, bs = [c0, c1, c2, c3, c4, c5, c6, c7] := by
    match bs, hl with
    | [c0, c1, c2, c3, c4, c5, c6, c7], _ => exact ⟨_, _, _, _, _, _, _, _, rfl⟩
  simp only [List.mem_cons, List.not_mem_nil, or_false, forall_eq_or_imp, forall_eq] at hb
  obtain ⟨h0, h1, h2, h3, h4, h5, h6, h7⟩ := hb
  simp only [numS]
  rw [or_byte 0 c0 h0.1 (by omega), show wrap64 (0 * 256 + c0) = c0 by unfold wrap64; omega]
  rw [or_byte _ c1 h1.1 (by omega), show wrap64 (c0 * 256 + c1) = c0 * 256 + c1 by unfold wrap64; omega]
  rw [or_byte _ c2 h2.1 (by omega), show wrap64 ((c0 * 256 + c1) * 256 + c2) = c0 * 65536 + c1 * 256 + c2 by unfold wrap64; omega]
  rw [or_byte _ c3 h3.1 (by omega), show wrap64 ((c0 * 65536 + c1 * 256 + c2) * 256 + c3) = c0 * 16777216 + c1 * 65536 + c2 * 256 + c3 by unfold wrap64; omega]
  rw [or_byte _ c4 h4.1 (by omega)]
  generalize hx : c0 * 16777216 + c1 * 65536 + c2 * 256 + c3 = x
  rw [show wrap64 (x * 256 + c4) = x * 256 + c4 by unfold wrap64; omega]
  rw [or_byte _ c5 h5.1 (by omega), show wrap64 ((x * 256 + c4) * 256 + c5) = x * 65536 + c4 * 256 + c5 by unfold wrap64; omega]
  rw [or_byte _ c6 h6.1 (by omega), show wrap64 ((x * 65536 + c4 * 256 + c5) * 256 + c6) = x * 16777216 + c4 * 65536 + c5 * 256 + c6 by unfold wrap64; omega]
  rw [or_byte _ c7 h7.1 (by omega)]
  generalize hy : wrap64 ((x * 16777216 + c4 * 65536 + c5 * 256 + c6) * 256 + c7) = y
  have hy2 : y = x * 4294967296 + c4 * 16777216 + c5 * 65536 + c6 * 256 + c7 ∨ y = x * 4294967296 + c4 * 16777216 + c5 * 65536 + c6 * 256 + c7 - 18446744073709551616 := by rw [← hy]; unfold wrap64; omega
  simp only [beN]
  have q0 : y / 2 ^ (8 * 7) % 256 = c0 := by show y / 72057594037927936 % 256 = c0; omega
  have q1 : y / 2 ^ (8 * 6) % 256 = c1 := by show y / 281474976710656 % 256 = c1; omega
  have q2 : y / 2 ^ (8 * 5) % 256 = c2 := by show y / 1099511627776 % 256 = c2; omega
  have q3 : y / 2 ^ (8 * 4) % 256 = c3 := by show y / 4294967296 % 256 = c3; omega
  have q4 : y / 2 ^ (8 * 3) % 256 = c4 := by show y / 16777216 % 256 = c4; omega
  have q5 : y / 2 ^ (8 * 2) % 256 = c5 := by show y / 65536 % 256 = c5; omega
  have q6 : y / 2 ^ (8 * 1) % 256 = c6 := by show y / 256 % 256 = c6; omega
  have q7 : y / 2 ^ (8 * 0) % 256 = c7 := by show y / 1 % 256 = c7; omega
  rw [q0, q1, q2, q3, q4, q5, q6, q7]
/-- A row of bytes that lies in a block that may be written. -/
def Ow (g : Nat) (r : List Int) (W : World) : Prop := ∃ arr : Array Value, W.heap[g]? = some (.cells arr 5 (0, 0)) ∧ r.length ≤ arr.size ∧ arr.toList.take r.length = nums .u8 r
theorem Ow.C {g : Nat} {r : List Int} {W : World} (h : Ow g r W) (hm : r.length < 140737488355328) : Kd.C (Kd.int .u8) W (some ⟨g, 0, none⟩) r.length r := by
  obtain ⟨arr, h1, h2, h3⟩ := h
  refine ⟨rfl, by omega, fun _ => ⟨_, rfl, fun j p hj => ⟨[.int .u8 p], rfl, rfl, fun i u hu => ?_⟩⟩⟩
  obtain rfl : i = 0 := by
    rcases i with _ | i
    · rfl
    · simp at hu
  obtain rfl : Value.int .u8 p = u := by simpa using hu
  show W.cell? (Addr.add ⟨g, 0, none⟩ (j * 1 + 0)) = _
  rw [add_plain, blk_cell h1]
  have hjl : j < r.length := (List.getElem?_eq_some_iff.1 hj).1
  have : (arr.toList.take r.length)[j]? = some (.int .u8 p) := by rw [h3]; simp [nums, hj]
  rw [List.getElem?_take, if_pos hjl] at this
  simpa using this
theorem Ow.below {g : Nat} {r : List Int} {W W1 : World} (h : Ow g r W) (hb : Below W.heap.size W W1) : Ow g r W1 := by
  obtain ⟨arr, h1, h2⟩ := h
  exact ⟨arr, blk_below h1 hb, h2⟩
theorem int_own (A0 : Option Addr) (c0 : Nat) (l0 : List Int) (a1 : Int) (w : World) (hr0 : Kd.C (Kd.int .u8) w A0 l0.length l0) (hc0 : l0.length ≤ c0) (hl : l0.length + 8 < 140737488355328) :
    Calls Try.prog 18 #[.slice A0 l0.length c0, .int .i64 a1] w fun e w' => ∃ g, e = .returned (.slice (some ⟨g, 0, none⟩) (l0 ++ beN 8 a1).length (l0 ++ beN 8 a1).length) ∧ w.heap.size ≤ g ∧ Ow g (l0 ++ beN 8 a1) w' ∧ Below w.heap.size w w' := by
  have hf : octet_put.f 9 l0 a1 8 = some (l0 ++ beN 8 a1) := by
    have := int_be l0 a1 hl
    unfold octet_Int.f at this
    obtain ⟨t, ht, h2⟩ := Option.bind_eq_some_iff.1 this
    have : t = l0 ++ beN 8 a1 := by simpa [slices_Clip_byte.f] using h2
    rw [ht, this]
  have hpos : 0 < (l0 ++ beN 8 a1).length := by simp [beN_len]
  have HF := Aside0.mk hf
  have HR := Aside0.mk hr0
  have HC := Aside0.mk hc0
  obtain ⟨r, hr⟩ : ∃ r, l0 ++ beN 8 a1 = r := ⟨_, rfl⟩
  rw [hr] at HF hpos ⊢
  have HPO := Aside0.mk hpos
  clear hf hr0 hc0 hr hpos hl
  go_enter Try.func18, Try.ntmps18
  go_wp2_with (first
    | (go_at_call 40; (with_reducible refine (octet_put.calls 9 A0 c0 l0 a1 8 r w HR.out HC.out HF.out).mono ?_); rintro e w1 ⟨v, rfl, ho, hb⟩; have hown := Kd.own_of_R ho; rcases hown.2 with ⟨e, e0⟩ | ⟨g, cap, cur, e, hbg, hheap, hn, hm, hsz, htake⟩; (exact absurd e0 (by have := HPO.out; omega)); subst e; have HH := Aside0.mk hheap; have HT := Aside0.mk htake; have HN := Aside0.mk hn; have HB := Aside0.mk hb; have HZ := Aside0.mk hsz; have HG := Aside0.mk hbg; clear hheap htake hn hb hsz hown hbg hm ho)
    | (go_at_call 39; (with_reducible refine (clip_b _ _ _ _ HN.out).mono ?_); rintro e w2 ⟨rfl, rfl⟩))
  go_ret
  refine ⟨g, rfl, HG.out, ⟨cur, HH.out, by have := HZ.out; have := HN.out; omega, ?_⟩, HB.out⟩
  have := HT.out
  rw [Nat.mul_one] at this
  rw [this]
  rfl
theorem int_V (A0 : Option Addr) (c0 : Nat) (l0 : List Int) (a1 : Int) (w : World) (hr0 : Kd.C (Kd.int .u8) w A0 l0.length l0) (hc0 : l0.length ≤ c0) (hl : l0.length + 8 < 140737488355328) :
    Calls Try.prog 18 #[.slice A0 l0.length c0, .int .i64 a1] w fun e w' => ∃ A c, e = .returned (.slice A (l0 ++ beN 8 a1).length c) ∧ Kd.V (Kd.int .u8) 5 w' 0 (fun k => w.heap.size ≤ k) (.slice A (l0 ++ beN 8 a1).length c) (l0 ++ beN 8 a1) ∧ Below w.heap.size w w' := by
  refine (octet_Int.calls 9 A0 c0 l0 a1 _ w hr0 hc0 (int_be l0 a1 hl)).mono ?_
  rintro e w' ⟨v, rfl, hv, hb⟩
  obtain ⟨A, c, rfl, hc, hF⟩ := hv
  exact ⟨A, c, rfl, Kd.V_mk (e := 5) (base := 0) hc hF, hb⟩
theorem text_z (l : List Int) (hl : l.length + 3 < 140737488355328) : octet_Text.f 9 l ⟨#[122]⟩ = some (l ++ [0, 1, 122], 0) := by
  have h1 : slices_Clone_byte.f l = some l := by unfold slices_Clone_byte.f; simp only [Option.bind_some]; rw [if_pos (by simp; omega)]; rfl
  have h2 : slices_Grow_byte.f l 2 = some l := by unfold slices_Grow_byte.f; rw [if_pos (by omega), if_pos (by omega)]
  have e : wrap64 (2 - 1) = ((2 : Nat) : Int) - 1 := by decide +kernel
  have h := octet_put.l0.eq_2
  have hp : octet_put.f 9 l 1 2 = some (l ++ [0, 1]) := by
    unfold octet_put.f
    rw [h1, Option.bind_some, h2, Option.bind_some, e]
    have e1 : wrap64 (8 * (((2 : Nat) : Int) - 1)) = 8 := by decide +kernel
    have e2 : wrap64 ((((2 : Nat) : Int) - 1) - 1) = 0 := by decide +kernel
    have e3 : wrap64 (8 * 0) = 0 := by decide +kernel
    have e4 : wrap64 (0 - 1) = -1 := by decide +kernel
    have s1 : shr .i64 1 8 % 256 = 0 := by decide +kernel
    have s2 : shr .i64 1 0 % 256 = 1 := by decide +kernel
    rw [h, if_pos (by omega), e1, e2, if_pos (by omega), if_pos (by omega), h, if_pos (by omega), e3, e4, if_pos (by omega), if_pos (by simp; omega), h, if_neg (by omega), s1, s2]
    simp
  unfold octet_Text.f
  rw [if_neg (by decide), show (((⟨#[122]⟩ : ByteArray).size : Nat) : Int) = 1 from rfl, hp, Option.bind_some, if_pos (by show (l ++ [0, 1]).length + 1 < _; simp; omega)]
  show some ((l ++ [0, 1]) ++ bytesOf ⟨#[122]⟩, (0 : Int)) = _
  rw [show bytesOf ⟨#[122]⟩ = [122] from rfl]
  simp
theorem text_V (A0 : Option Addr) (c0 : Nat) (l0 : List Int) (w : World) (hr0 : Kd.C (Kd.int .u8) w A0 l0.length l0) (hc0 : l0.length ≤ c0) (hl : l0.length + 3 < 140737488355328) :
    Calls Try.prog 16 #[.slice A0 l0.length c0, .string ⟨#[122]⟩] w fun e w' => ∃ A c, e = .returned (.tuple #[.slice A (l0 ++ [0, 1, 122]).length c, .int .i64 0]) ∧ Kd.V (Kd.int .u8) 5 w' 0 (fun k => w.heap.size ≤ k) (.slice A (l0 ++ [0, 1, 122]).length c) (l0 ++ [0, 1, 122]) ∧ Below w.heap.size w w' := by
  refine (octet_Text.calls 9 A0 c0 l0 ⟨#[122]⟩ _ 0 w hr0 hc0 (text_z l0 hl)).mono ?_
  rintro e w' ⟨v, rfl, hv, hb⟩
  obtain ⟨A, c, rfl, hc, hF⟩ := hv
  exact ⟨A, c, rfl, Kd.V_mk (e := 5) (base := 0) hc hF, hb⟩
theorem beN_bd (v : Int) : ∀ (d : Nat) (y : Int), y ∈ beN d v → 0 ≤ y ∧ y ≤ 255
  | 0, y, h => by simp [beN] at h
  | d + 1, y, h => by
    rcases List.mem_cons.1 h with rfl | h
    · omega
    · exact beN_bd v d y h
theorem Ow.lt {g : Nat} {r : List Int} {W : World} (h : Ow g r W) : g < W.heap.size := by
  obtain ⟨arr, h1, _⟩ := h
  exact blk_lt h1
theorem Ow.at_ {g : Nat} {r : List Int} {W : World} (h : Ow g r W) (i : Int) (h0 : 0 ≤ i) (h1 : i < (r.length : Int)) : W.cell? ⟨g, i.toNat, none⟩ = some (.int .u8 (rd r i)) ∧ W.frozen? ⟨g, i.toNat, none⟩ = false := by
  obtain ⟨arr, ha, h2, h3⟩ := h
  refine ⟨?_, blk_frozen ha _⟩
  rw [blk_cell ha]
  have hlt : i.toNat < r.length := by omega
  have : (arr.toList.take r.length)[i.toNat]? = (nums .u8 r)[i.toNat]? := by rw [h3]
  rw [List.getElem?_take, if_pos hlt] at this
  simpa [nums, rd, hlt, List.getD_eq_getElem?_getD] using this
theorem Ow.put {g : Nat} {r : List Int} {W : World} (h : Ow g r W) (i : Nat) (v : Int) : Ow g (r.set i v) (W.setCell ⟨g, i, none⟩ (.int .u8 v)) := by
  obtain ⟨arr, ha, h2, h3⟩ := h
  refine ⟨_, blk_put ha i _ rfl, by simpa using h2, ?_⟩
  rw [List.length_set]
  have : nums .u8 (r.set i v) = (nums .u8 r).set i (.int .u8 v) := by simp [nums, List.map_set]
  rw [this, ← h3, Array.toList_setIfInBounds, List.take_set]
theorem V_puts2 {p : Nat} {ok : Nat → Prop} {w W : World} {v : Value} {xs : List Int} (h : Kd.V (Kd.int .u8) 5 w 0 ok v xs) (hok : ∀ k, ok k → k ≠ p) (hp : Puts p w W) : Kd.V (Kd.int .u8) 5 W 0 ok v xs := by
  obtain ⟨A, c, rfl, hc, hF⟩ := h
  exact Kd.V_mk hc (Foot.step hF (fun k hk hlt => (hp 0 (Nat.zero_le _)).2.2 k (hok k hk)))
theorem V_none (W : World) (ok : Nat → Prop) (A : Option Addr) (c : Nat) : Kd.V (Kd.int .u8) 5 W 0 ok (.slice A ([] : List Int).length c) [] :=
  Kd.V_mk (Nat.zero_le _) (fun _ _ => ⟨rfl, by simp, fun h => absurd h (by simp)⟩)
theorem int_at {base p : Nat} {xs : List Int} (W : World) (h : Rdr base p xs false W) (h8 : 8 ≤ xs.length) : Calls Try.prog 25 #[.pointer (some ⟨p, 0, none⟩)] W fun e W' => ∃ v, e = .returned (.int .i64 v) ∧ beN 8 v = xs.take 8 ∧ Rdr base p (xs.drop 8) false W' ∧ Puts p W W' := by
  have := int_f (base := base) (p := p) (xs, false) W h
  rw [show rInt (xs, false) = (numS (xs.take 8) 0, (xs.drop 8, false)) by unfold rInt; rw [if_neg (by simp; omega)]] at this
  exact this.mono (fun e W' ⟨h1, h2, h3⟩ => ⟨_, h1, be_num _ (fun y hy => h.by_ y (List.mem_of_mem_take hy)) (by rw [List.length_take]; omega), h2, h3⟩)
theorem ref_shift (v : Int) (d : Nat) (h : d < 8) : shr .u64 (IntKind.u64.wrap v) (IntKind.u64.wrap (wrap64 (8 * (((d + 1 : Nat) : Int) - 1)))) % 256 = v / 2 ^ (8 * d) % 256 := by
  have e1 : IntKind.u64.wrap (wrap64 (8 * (((d + 1 : Nat) : Int) - 1))) = ((8 * d : Nat) : Int) := by rw [show ∀ z, IntKind.u64.wrap z = z % 18446744073709551616 from fun _ => rfl]; unfold wrap64; omega
  rw [e1, show IntKind.u64.wrap v = v % 18446744073709551616 from rfl]
  show (v % 18446744073709551616) / 2 ^ (min ((8 * d : Nat) : Int).toNat 64) % 256 = _
  rw [Int.toNat_natCast, Nat.min_eq_left (by omega)]
  have hd : d = 0 ∨ d = 1 ∨ d = 2 ∨ d = 3 ∨ d = 4 ∨ d = 5 ∨ d = 6 ∨ d = 7 := by omega
  rcases hd with rfl | rfl | rfl | rfl | rfl | rfl | rfl | rfl <;> simp only [Nat.reduceMul, Int.reducePow] <;> omega
theorem ref_run (v : Int) : ∀ (d : Nat) (xs : List Int), d ≤ 8 → xs.length + d < 140737488355328 → prebendref03_Int.l0 (d + 1) v xs ((d : Int) - 1) = some (xs ++ beN d v)
  | 0, xs, _, _ => by
    rw [prebendref03_Int.l0.eq_2, if_neg (by simp)]; simp [beN]
  | d + 1, xs, h, hl => by
    have e1 : IntKind.u64.wrap (wrap64 (8 * (((d + 1 : Nat) : Int) - 1))) = ((8 * d : Nat) : Int) := by rw [show ∀ z, IntKind.u64.wrap z = z % 18446744073709551616 from fun _ => rfl]; unfold wrap64; omega
    have e2 : wrap64 ((((d + 1 : Nat) : Int) - 1) - 1) = (d : Int) - 1 := by unfold wrap64; omega
    rw [prebendref03_Int.l0.eq_2, if_pos (by omega), if_pos (by rw [e1]; omega), if_pos (by omega), ref_shift v d (by omega), e2, ref_run v d _ (by omega) (by simp; omega)]
    simp [beN]
theorem ref_be (l : List Int) (v : Int) (hl : l.length + 8 < 140737488355328) : prebendref03_Int.f 9 l v = some (l ++ beN 8 v) := by
  have h := ref_run v 8 l (by omega) hl
  unfold prebendref03_Int.f
  rw [Option.bind_some, if_pos (by simp; omega)]
  exact h
theorem rdr_lt {base p : Nat} {xs : List Int} {b : Bool} {W : World} (h : Rdr base p xs b W) : p < W.heap.size := by
  obtain ⟨A, c, h1, _⟩ := h.ex
  exact blk_lt h1
structure HoldO (w : World) (ok : Nat → Prop) (vg vx v2 v3 : Value) (gl x t2 t3 : List Int) (W : World) : Prop where
  below : Below w.heap.size w W
  g : Kd.V (Kd.int .u8) 5 W 0 ok vg gl
  x : Kd.V (Kd.int .u8) 5 W 0 ok vx x
  t2 : Kd.V (Kd.int .u8) 5 W 0 ok v2 t2
  t3 : Kd.V (Kd.int .u8) 5 W 0 ok v3 t3
theorem HoldO.go {w : World} {ok : Nat → Prop} {vg vx v2 v3 : Value} {gl x t2 t3 : List Int} {W W1 : World} (h : HoldO w ok vg vx v2 v3 gl x t2 t3 W) (hb : Below W.heap.size W W1) : HoldO w ok vg vx v2 v3 gl x t2 t3 W1 :=
  ⟨below_step h.below hb, Kd.V_below h.g hb, Kd.V_below h.x hb, Kd.V_below h.t2 hb, Kd.V_below h.t3 hb⟩
theorem ref_z (l : List Int) (hl : l.length < 1000000) : prebendref03_Text.f l ⟨#[122]⟩ = some (l ++ [0, 1, 122]) := by
  unfold prebendref03_Text.f
  rw [if_pos ⟨by omega, by decide⟩]
  simp only [show (((⟨#[122]⟩ : ByteArray).size : Nat) : Int) = 1 from rfl, show bytesOf ⟨#[122]⟩ = [122] from rfl]
  simp
def Cv (v : Value) (l : List Int) (W : World) : Prop := (convert 22 9 v).run Try.prog W = .ok (.string (strOfNums l)) W
theorem horner (v : Int) : ∀ (d : Nat) (a : Int), d ≤ 8 → numS (beN d v) a = wrap64 (a * 2 ^ (8 * d) + v % 2 ^ (8 * d)) ∨ d = 0
  | 0, a, _ => .inr rfl
  | d + 1, a, h => by
    refine .inl ?_
    have hc : 0 ≤ v / 2 ^ (8 * d) % 256 ∧ v / 2 ^ (8 * d) % 256 ≤ 255 := by omega
    simp only [beN, numS]
    rw [or_byte _ _ hc.1 (by omega)]
    rcases horner v d (wrap64 (a * 256 + v / 2 ^ (8 * d) % 256)) (by omega) with e | rfl
    · rw [e]
      have hd : d = 0 ∨ d = 1 ∨ d = 2 ∨ d = 3 ∨ d = 4 ∨ d = 5 ∨ d = 6 ∨ d = 7 := by omega
      rcases hd with rfl | rfl | rfl | rfl | rfl | rfl | rfl | rfl <;> simp only [Nat.reduceMul, Nat.reduceAdd, Int.reducePow] <;> unfold wrap64 <;> omega
    · simp only [beN, numS, Nat.reduceMul, Nat.reduceAdd, Int.reducePow]; unfold wrap64; omega
theorem num_be8 (v : Int) (h : -9223372036854775808 ≤ v ∧ v ≤ 9223372036854775807) : numS (beN 8 v) 0 = v := by
  rcases horner v 8 0 (by omega) with e | e
  · rw [e]; simp only [Nat.reduceMul, Int.reducePow]; unfold wrap64; omega
  · cases e
theorem num_be2 (v : Int) (h : 0 ≤ v ∧ v ≤ 65535) : numS (beN 2 v) 0 = v := by
  rcases horner v 2 0 (by omega) with e | e
  · rw [e]; simp only [Nat.reduceMul, Int.reducePow]; unfold wrap64; omega
  · cases e
/-- What stands for a number and a text. -/
def pc (q : Int × ByteArray) : List Int := beN 8 q.1 ++ (beN 2 (q.2.size : Int) ++ bytesOf q.2)
def pcs (l : List (Int × ByteArray)) : List Int := (l.map pc).flatten
theorem pcs_snoc (l : List (Int × ByteArray)) (q : Int × ByteArray) : pcs (l ++ [q]) = pcs l ++ pc q := by simp [pcs]
theorem pcs_cons (l : List (Int × ByteArray)) (q : Int × ByteArray) : pcs (q :: l) = pc q ++ pcs l := by simp [pcs]
def Ok (q : Int × ByteArray) : Prop := (-9223372036854775808 ≤ q.1 ∧ q.1 ≤ 9223372036854775807) ∧ q.2.size ≤ 300
theorem pc_len (q : Int × ByteArray) : (pc q).length = 10 + q.2.size := by simp [pc, beN_len, bytesOf_length]; omega
theorem pcs_len {l : List (Int × ByteArray)} (h : ∀ q ∈ l, Ok q) : (pcs l).length ≤ 310 * l.length := by
  induction l with
  | nil => simp [pcs]
  | cons q l ih =>
    have h1 := ih (fun x hx => h x (List.mem_cons_of_mem _ hx))
    have h2 := (h q (List.mem_cons_self ..)).2
    rw [pcs_cons, List.length_append, pc_len, List.length_cons]; omega
theorem rInt_pc (q : Int × ByteArray) (r : List Int) (h : Ok q) : rInt (pc q ++ r, false) = (q.1, (beN 2 (q.2.size : Int) ++ (bytesOf q.2 ++ r), false)) := by
  have e : pc q ++ r = beN 8 q.1 ++ (beN 2 (q.2.size : Int) ++ (bytesOf q.2 ++ r)) := by simp [pc]
  rw [e]
  unfold rInt
  rw [if_neg (by simp [beN_len])]
  simp only
  rw [List.take_left' (beN_len _ _), List.drop_left' (beN_len _ _), num_be8 _ h.1]
theorem rText_pc (q : Int × ByteArray) (r : List Int) (h : Ok q) : rText (beN 2 (q.2.size : Int) ++ (bytesOf q.2 ++ r), false) 300 = (bytesOf q.2, (r, false)) := by
  have h2 := h.2
  unfold rText
  rw [if_neg (by simp [beN_len])]
  simp only
  rw [List.take_left' (beN_len _ _), List.drop_left' (beN_len _ _), num_be2 _ (by omega), if_neg (by simp [beN_len, bytesOf_length]; omega)]
  simp only [Int.toNat_natCast]
  rw [List.take_left' (bytesOf_length _), List.drop_left' (bytesOf_length _)]
/-- A reader of bytes that are cut off. -/
def CutOk (l : List (Int × ByteArray)) (s : List Int × Bool) : Prop := s.2 = true ∨ ∃ c, c < (pcs l).length ∧ s = ((pcs l).take c, false)
theorem rInt_bad {s : List Int × Bool} (h : s.2 = true) : rInt s = (0, (s.1, true)) := by simp [rInt, h]
theorem rText_bad {s : List Int × Bool} (m : Int) (h : s.2 = true) : rText s m = ([], (s.1, true)) := by simp [rText, h]
theorem CutOk.step {q : Int × ByteArray} {l : List (Int × ByteArray)} {s : List Int × Bool} (h : CutOk (q :: l) s) (hq : Ok q) : CutOk l (rText (rInt s).2 300).2 := by
  have hq2 := hq.2
  rcases h with h | ⟨c, hc, rfl⟩
  · rw [rInt_bad h, rText_bad _ rfl]; exact .inl rfl
  · rw [pcs_cons, List.length_append, pc_len] at hc
    have e : pcs (q :: l) = beN 8 q.1 ++ (beN 2 (q.2.size : Int) ++ (bytesOf q.2 ++ pcs l)) := by simp [pcs_cons, pc]
    rw [e]
    by_cases h8 : c < 8
    · have : rInt ((beN 8 q.1 ++ (beN 2 (q.2.size : Int) ++ (bytesOf q.2 ++ pcs l))).take c, false) = (0, ((beN 8 q.1 ++ (beN 2 (q.2.size : Int) ++ (bytesOf q.2 ++ pcs l))).take c, true)) := by
        unfold rInt; rw [if_pos (by simp [beN_len]; omega)]
      rw [this, rText_bad _ rfl]; exact .inl rfl
    · have e1 : (beN 8 q.1 ++ (beN 2 (q.2.size : Int) ++ (bytesOf q.2 ++ pcs l))).take c = beN 8 q.1 ++ (beN 2 (q.2.size : Int) ++ (bytesOf q.2 ++ pcs l)).take (c - 8) := by
        rw [List.take_append, beN_len, List.take_of_length_le (by rw [beN_len]; omega)]
      have e2 : rInt (beN 8 q.1 ++ (beN 2 (q.2.size : Int) ++ (bytesOf q.2 ++ pcs l)).take (c - 8), false) = (q.1, ((beN 2 (q.2.size : Int) ++ (bytesOf q.2 ++ pcs l)).take (c - 8), false)) := by
        unfold rInt
        rw [if_neg (by simp [beN_len])]
        simp only
        rw [List.take_left' (beN_len _ _), List.drop_left' (beN_len _ _), num_be8 _ hq.1]
      rw [e1, e2]
      simp only
      by_cases h10 : c < 10
      · have : rText ((beN 2 (q.2.size : Int) ++ (bytesOf q.2 ++ pcs l)).take (c - 8), false) 300 = ([], ((beN 2 (q.2.size : Int) ++ (bytesOf q.2 ++ pcs l)).take (c - 8), true)) := by
          unfold rText; rw [if_pos (by simp [beN_len]; omega)]
        rw [this]; exact .inl rfl
      · have e3 : (beN 2 (q.2.size : Int) ++ (bytesOf q.2 ++ pcs l)).take (c - 8) = beN 2 (q.2.size : Int) ++ (bytesOf q.2 ++ pcs l).take (c - 10) := by
          rw [List.take_append, beN_len, List.take_of_length_le (by rw [beN_len]; omega)]; congr 2
        rw [e3]
        unfold rText
        rw [if_neg (by simp [beN_len])]
        simp only
        rw [List.take_left' (beN_len _ _), List.drop_left' (beN_len _ _), num_be2 _ (by omega)]
        by_cases hn : c - 10 < q.2.size
        · rw [if_pos (by simp [beN_len, bytesOf_length]; omega)]; exact .inl rfl
        · rw [if_neg (by simp [beN_len, bytesOf_length]; omega)]
          refine .inr ⟨c - 10 - q.2.size, by omega, ?_⟩
          simp only [Int.toNat_natCast]
          rw [List.take_append, bytesOf_length, List.take_of_length_le (by rw [bytesOf_length]; omega), List.drop_left' (bytesOf_length _)]
theorem text_be (l : List Int) (s : ByteArray) (hs : s.size ≤ 300) (hl : l.length < 1000000) : octet_Text.f 3 l s = some (l ++ (beN 2 (s.size : Int) ++ bytesOf s), 0) := by
  have h1 : slices_Clone_byte.f l = some l := by unfold slices_Clone_byte.f; simp only [Option.bind_some]; rw [if_pos (by simp; omega)]; rfl
  have h2 : slices_Grow_byte.f l 2 = some l := by unfold slices_Grow_byte.f; rw [if_pos (by omega), if_pos (by omega)]
  have e : wrap64 (2 - 1) = ((2 : Nat) : Int) - 1 := by decide +kernel
  have hp : octet_put.f 3 l (s.size : Int) 2 = some (l ++ beN 2 (s.size : Int)) := by
    unfold octet_put.f
    rw [h1, Option.bind_some, h2, Option.bind_some, e]
    exact put_run _ 2 l (by omega) (by omega)
  unfold octet_Text.f
  rw [if_neg (by omega), hp, Option.bind_some, if_pos (by simp [beN_len]; omega)]
  simp [slices_Clip_byte.f]
theorem run_str_w {P : Program} (w : World) (base : Nat) (t u ty e : TypeId) (i : TypeInfo) (ht : P.underlying t = some (.slice e)) (hu : P.underlying u = some .string) (hi : P.info? e = some i) (hz : i.zero = some (.int .u8 0))
    (hsize : i.size = 1) (hby : i.bytes = 1) (g n cap : Nat) (cur : Array Value) (xs : List Value) (hxl : xs.length = n) (hbg : base ≤ g) (hg : w.heap[g]? = some (.cells cur e (0, 0))) (hnc : n ≤ cap) (hcm : cap ≤ maxLen) (hcs : cur.size = cap) (htk : cur.toList.take n = xs)
    (s : ByteArray) (hb : n + s.size ≤ 200000000000000) (hbase : base ≤ w.heap.size) :
    ∃ v' w', (Builtin.append_ #[t, u] ty #[.slice (some ⟨g, 0, none⟩) n cap, .string s]).run P w = .ok v' w' ∧ w'.ownsRow base e 1 v' (n + s.size) (xs ++ Lib.strCells s) ∧ w.grownBy w' (some g) := by
  have hL : (xs ++ Lib.strCells s).length = n + s.size := by rw [List.length_append, hxl, Lib.strCells_length]
  by_cases hroom : n + s.size ≤ cap
  · refine ⟨_, _, Lib.run_append_room_string (P := P) w t u ty e i ht hu hi hsize g n cap cur hg s hroom (by omega), ⟨by omega, .inr ⟨g, cap, _, rfl, hbg, setRow_heap w g cur _ e _ hg, hroom, hcm, ?_, ?_⟩⟩, rfl, rfl, rfl, by simp, fun k _ hk => setRow_other w g k _ (fun e => hk (by rw [e]))⟩
    · simp only [List.size_toArray, List.length_append, List.length_take, List.length_drop, Array.length_toList, Lib.strCells_length]; omega
    · rw [htk, Nat.mul_one, ← hL]; exact List.take_left
  · have holds : ∀ j v, xs[j]? = some v → w.cell? ((⟨g, 0, none⟩ : Addr).add j) = some v := by
      intro j v hj
      have hjl : j < n := by have := (List.getElem?_eq_some_iff.1 hj).1; omega
      rw [add_plain, blk_cell hg]
      rw [← htk, List.getElem?_take, if_pos hjl] at hj
      simpa using hj
    refine ⟨_, _, Lib.run_append_grow_string (P := P) w t u ty e i (.int .u8 0) ht hu hi hz ⟨g, 0, none⟩ n cap xs (by rw [hsize, hxl, Nat.mul_one]) holds s (by omega) (by omega) (growslice_fits_wide (by omega) (by rw [hby]; omega)), ⟨by omega, .inr ⟨w.heap.size, _, _, rfl, hbase, heap_alloc_new w.drew _, grownCap_ge w (n + s.size) cap e, grownCap_le_maxLen w (n + s.size) cap e (by unfold maxLen; omega), ?_, ?_⟩⟩, rfl, rfl, rfl, by simp, fun k hk _ => heap_alloc_old w.drew _ hk⟩
    · have hge := grownCap_ge w (n + s.size) cap e
      have hz1 : (Value.int IntKind.u8 0).cells.size = 1 := rfl
      simp only [Array.size_append, List.size_toArray, size_zeroCells, hz1, hxl, Lib.strCells_length]; omega
    · simp only [Array.toList_append, List.append_assoc]
      rw [← List.append_assoc, Nat.mul_one, ← hL]
      exact List.take_left
section
variable {P : Program} {ops : Array Oper} {rest : List Oper} {o : Oper} {a : Act} {Q : Exit → Act → World → Prop}
theorem append_str_w {w0 W : World} (base : Nat) (hgd : o.guard = none) (s x : Operand) (t u e : TypeId)
    (ho : o.op = .call { callee := .builtin .append, args := #[s, x], argTypes := #[t, u] })
    (ht : P.underlying t = some (.slice e)) (hu : P.underlying u = some .string) (hinfo : (P.info? e).map (fun i => (i.zero, i.size, i.bytes)) = some (some (.int .u8 0), 1, 1))
    (v : Value) (xs : List Int) (y : ByteArray) (hs : a.eval s = v) (hx : a.eval x = .string y)
    (HO : W.ownsRow base e 1 v xs.length (nums .u8 xs)) (HB : Below base w0 W) (hbase : base ≤ W.heap.size) (hl : xs.length + y.size ≤ 200000000000000) (hy : y.size ≤ 65535)
    (h : ∀ v1 w1, w1.ownsRow base e 1 v1 (xs ++ bytesOf y).length (nums .u8 (xs ++ bytesOf y)) → Below base w0 w1 → W.grownBy w1 v.ownBlock → wpList P ops Q rest (a.put o.dst v1) w1) :
    wpList P ops Q (o :: rest) a W := by
  by_cases hsm : xs.length + y.size ≤ 140737488355328
  · exact print_append_str base hgd s x t u e ho ht hu hinfo v xs y hs hx HO HB hbase hsm h
  · obtain ⟨i0, hi, hzz⟩ := Option.map_eq_some_iff.1 hinfo
    simp only [Prod.mk.injEq] at hzz
    obtain ⟨hz0, hz1, hz2⟩ := hzz
    have hl2 : (xs ++ bytesOf y).length = xs.length + y.size := by rw [List.length_append, bytesOf_length]
    have hc : nums .u8 (xs ++ bytesOf y) = nums .u8 xs ++ Lib.strCells y := by
      rw [nums_append]; congr 1; simp [nums, bytesOf, Lib.strCells]
    rcases HO.2 with ⟨rfl, hn⟩ | ⟨g, cap, cur, rfl, hbg, hg, hnc, hcm, hcs, htake⟩
    · exact absurd (show xs.length + y.size ≤ 140737488355328 by omega) hsm
    · obtain ⟨v1, w1, hr, h2, h3⟩ := run_str_w (P := P) W base t u o.type e i0 ht hu hi hz0 hz1 hz2 g xs.length cap cur (nums .u8 xs) (by simp [nums]) hbg hg hnc hcm (by omega) (by rw [Nat.mul_one] at htake; exact htake) y hl hbase
      refine wpList_plain hgd fun K hK => ?_
      unfold Oper.wp execOp
      simp only [ho, resolve, invoke, builtin, Sem.run_bind, Sem.run_pure, Result.andThen_ok, List.map_toArray, List.map_cons, List.map_nil, hs, hx, hr]
      exact hK _ _ (h v1 w1 (by rw [hl2, hc]; exact h2) (HB.grown h3 hbase (fun k hk => by cases hk; exact hbg)) h3)
end
section
variable {P : Program} {ops : Array Oper} {rest : List Oper} {o : Oper} {a : Act} {Q : Exit → Act → World → Prop}
theorem R_append_w {w0 W : World} (base : Nat) (hgd : o.guard = none) (s x : Operand) (t e : TypeId)
    (ho : o.op = .call { callee := .builtin .append, args := #[s, x], argTypes := #[t, t] })
    (ht : P.underlying t = some (.slice e)) (hinfo : (P.info? e).map (fun i => (i.zero, i.size, i.bytes)) = some (some (.int .u8 0), 1, 1))
    (v : Value) (xs ys : List Int) (ad : Addr) (m c : Nat) (hs : a.eval s = v) (hx : a.eval x = .slice (some ad) m c)
    (HO : Kd.R (Kd.int .u8) e W base (fun _ => True) v xs) (HC : Kd.C (Kd.int .u8) W (some ad) m ys) (HB : Below base w0 W) (hbase : base ≤ W.heap.size) (hl : xs.length + m ≤ 200000000000000)
    (h : ∀ v1 w1, Kd.R (Kd.int .u8) e w1 base (fun _ => True) v1 (xs ++ ys) → Below base w0 w1 → wpList P ops Q rest (a.put o.dst v1) w1) : wpList P ops Q (o :: rest) a W := by
  obtain ⟨i0, hi, hzz⟩ := Option.map_eq_some_iff.1 hinfo
  simp only [Prod.mk.injEq] at hzz
  obtain ⟨hz0, hz1, hz2⟩ := hzz
  have hown := Kd.own_of_R HO
  have hyl : ys.length = m := HC.1
  refine wpList_append_own_wide W hgd s x t ho base e i0 (.int .u8 0) 1 1 ht hi hz0 hz1 hz2 rfl (by omega) v xs.length _ hs hown ad m c (nums .u8 ys) hx (by simp [nums, hyl]) (fun j u hj => ?_) (fun u hu => ?_) (by unfold maxLen; omega) (by omega) hbase (fun v1 w1 h1 h2 _ => ?_)
  · have hjl : j < ys.length := by have := (List.getElem?_eq_some_iff.1 hj).1; simpa [nums] using this
    obtain ⟨ad2, e2, hcell⟩ := Kd.at_int HC (j : Int) (by omega) (by omega)
    cases e2
    rw [Int.toNat_natCast] at hcell
    rw [hcell]
    simp only [nums, List.getElem?_map, List.getElem?_eq_getElem hjl, Option.map_some] at hj
    rw [← hj]
    simp [rd, List.getD_eq_getElem?_getD, hjl]
  · simp only [nums, List.mem_map] at hu
    obtain ⟨b, _, rfl⟩ := hu
    rfl
  · refine h v1 w1 (Kd.R_of_own (h1 := fun _ => rfl) ?_ (fun _ _ => trivial)) (HB.grown h2 hbase (own_base hown))
    rw [List.length_append, hyl]
    have : encs (Value.int .u8) (xs ++ ys) = encs (Value.int .u8) xs ++ nums .u8 ys := by simp [encs, nums]
    rw [this]
    exact h1
end
theorem Ow.C2 {g : Nat} {r : List Int} {W : World} (h : Ow g r W) (hm : r.length < 9223372036854775807) : Kd.C (Kd.int .u8) W (some ⟨g, 0, none⟩) r.length r := by
  obtain ⟨arr, h1, h2, h3⟩ := h
  refine ⟨rfl, by omega, fun _ => ⟨_, rfl, fun j p hj => ⟨[.int .u8 p], rfl, rfl, fun i u hu => ?_⟩⟩⟩
  obtain rfl : i = 0 := by
    rcases i with _ | i
    · rfl
    · simp at hu
  obtain rfl : Value.int .u8 p = u := by simpa using hu
  show W.cell? (Addr.add ⟨g, 0, none⟩ (j * 1 + 0)) = _
  rw [add_plain, blk_cell h1]
  have hjl : j < r.length := (List.getElem?_eq_some_iff.1 hj).1
  have : (arr.toList.take r.length)[j]? = some (.int .u8 p) := by rw [h3]; simp [nums, hj]
  rw [List.getElem?_take, if_pos hjl] at this
  simpa using this
theorem Ow.V {g base : Nat} {r : List Int} {W : World} (h : Ow g r W) (hb : base ≤ g) (hm : r.length < 9223372036854775807) : Kd.V (Kd.int .u8) 5 W 0 (fun k => base ≤ k) (.slice (some ⟨g, 0, none⟩) r.length r.length) r := by
  refine Kd.V_mk (Nat.le_refl _) (fun W' hW => ?_)
  obtain ⟨arr, h1, h2, h3⟩ := h
  have h1' : W'.heap[g]? = some (.cells arr 5 (0, 0)) := (hW g hb (blk_lt h1)).trans h1
  exact Ow.C2 ⟨arr, h1', h2, h3⟩ hm
theorem text_w (A0 : Option Addr) (c0 : Nat) (l0 : List Int) (s : ByteArray) (w : World) (hr0 : Kd.C (Kd.int .u8) w A0 l0.length l0) (hc0 : l0.length ≤ c0) (hs : s.size ≤ 65535) (hl : l0.length ≤ 140737488351232) :
    Calls Try.prog 16 #[.slice A0 l0.length c0, .string s] w fun e w' => ∃ A c, e = .returned (.tuple #[.slice A (l0 ++ (beN 2 (s.size : Int) ++ bytesOf s)).length c, .int .i64 0]) ∧ Kd.V (Kd.int .u8) 5 w' 0 (fun k => w.heap.size ≤ k) (.slice A (l0 ++ (beN 2 (s.size : Int) ++ bytesOf s)).length c) (l0 ++ (beN 2 (s.size : Int) ++ bytesOf s)) ∧ Below w.heap.size w w' := by
  have h1 : slices_Clone_byte.f l0 = some l0 := by unfold slices_Clone_byte.f; simp only [Option.bind_some]; rw [if_pos (by simp; omega)]; rfl
  have h2 : slices_Grow_byte.f l0 2 = some l0 := by unfold slices_Grow_byte.f; rw [if_pos (by omega), if_pos (by omega)]
  have e : wrap64 (2 - 1) = ((2 : Nat) : Int) - 1 := by decide +kernel
  have hp : octet_put.f 3 l0 (s.size : Int) 2 = some (l0 ++ beN 2 (s.size : Int)) := by
    unfold octet_put.f
    rw [h1, Option.bind_some, h2, Option.bind_some, e]
    exact put_run _ 2 l0 (by omega) (by omega)
  obtain ⟨b1, hb1⟩ : ∃ b1, l0 ++ beN 2 (s.size : Int) = b1 := ⟨_, rfl⟩
  have hb1l : Aside0 (b1.length = l0.length + 2) := ⟨by rw [← hb1]; simp [beN_len]⟩
  rw [← List.append_assoc, hb1]
  rw [hb1] at hp
  obtain ⟨b2, hb2⟩ : ∃ b2, b1 ++ bytesOf s = b2 := ⟨_, rfl⟩
  have hb2l : Aside0 (b2.length = l0.length + 2 + s.size) := ⟨by rw [← hb2, List.length_append, hb1l.out, bytesOf_length]⟩
  rw [hb2]
  have HB2 := Aside0.mk hb2
  have HF := Aside0.mk hp
  have HR := Aside0.mk hr0
  have HC := Aside0.mk hc0
  have HS := Aside0.mk (And.intro hs hl)
  have d1 : decide (65535 < (s.size : Int)) = false := decide_eq_false (by omega)
  have d2 : decide (65535 < s.size) = false := decide_eq_false (by omega)
  clear hr0 hc0 hs hl h1 h2 e hp hb1 hb2
  go_enter Try.func16, Try.ntmps16
  go_wp2_with (first | (go_at_call 40; (with_reducible refine (octet_put.calls 3 A0 c0 l0 (s.size : Int) 2 b1 w HR.out HC.out HF.out).mono ?_); rintro e w1 ⟨v, rfl, ho, hb⟩; have HO := Aside0.mk (Kd.own_of_R ho); have HB := Aside0.mk hb; clear ho hb) | ((with_reducible refine gate_builtin (b := .append) (xs := #[.tmp 12, .tmp 13]) rfl ?_); at_builtin; refine append_str_w (w0 := w) w.heap.size rfl (.tmp 12) (.tmp 13) 22 9 5 rfl Try.underlying22 Try.underlying9 info5 v b1 s rfl rfl HO.out HB.out (below_size HB.out) (by have := hb1l.out; have := HS.out; omega) HS.out.1 ?_; intro v2 w2 ho hb hg; rw [HB2.out] at ho; rcases ho.2 with ⟨e, e0⟩ | ⟨g, cap, cur, e, hbg, hheap, hn, hm, hsz, htake⟩; (exact absurd e0 (by have := hb2l.out; omega)); subst e; clear HB HO; have HB := Aside0.mk hb; have HH := Aside0.mk hheap; have HT := Aside0.mk htake; have HN := Aside0.mk hn; have HZ := Aside0.mk hsz; have HG := Aside0.mk hbg; clear ho hb hg hheap htake hn hsz hbg hm) | (go_at_call 39; (with_reducible refine (clip_b _ _ _ _ HN.out).mono ?_); rintro e w3 ⟨rfl, rfl⟩))
  go_ret2
  have hOw : Ow g b2 w3 := ⟨cur, HH.out, by have := HZ.out; have := HN.out; omega, by have := HT.out; rw [Nat.mul_one] at this; rw [this]⟩
  exact ⟨_, _, rfl, hOw.V HG.out (by have := hb2l.out; have := HS.out; omega), HB.out⟩
theorem text_over (A0 : Option Addr) (c0 : Nat) (l0 : List Int) (s : ByteArray) (w : World) (hs : 65535 < s.size) :
    Calls Try.prog 16 #[.slice A0 l0.length c0, .string s] w fun e w' => e = .returned (.tuple #[.slice none 0 0, .int .i64 2]) ∧ w' = w := by
  have d1 : decide (65535 < (s.size : Int)) = true := decide_eq_true (by omega)
  have d2 : decide (65535 < s.size) = true := decide_eq_true (by omega)
  clear hs
  go_enter Try.func16, Try.ntmps16
  go_wp2
  go_ret2
  exact ⟨rfl, rfl⟩
set_option maxHeartbeats 8000000 in
set_option maxRecDepth 100000 in
theorem ref_w (A0 : Option Addr) (c0 : Nat) (l0 : List Int) (a1 : ByteArray) (w : World) (hr0 : Kd.C (Kd.int .u8) w A0 l0.length l0) (hc0 : l0.length ≤ c0) (hs : a1.size ≤ 65535) (hl : l0.length ≤ 140737488351232) :
    Calls Try.prog 20 #[.slice A0 l0.length c0, .string a1] w fun e w' => ∃ v0_ : Value, e = .returned (v0_) ∧ Kd.R (Kd.int .u8) 5 w' w.heap.size (fun _ => True) v0_ (l0 ++ [((a1.size : Int) / 256) % 256, (a1.size : Int) % 256] ++ bytesOf a1) ∧ Below w.heap.size w w' := by
  have hc := And.intro hl hs
  have h := True.intro
  have HL := Aside0.mk hc
  have HR0 := Aside0.mk hr0
  have HC0 := Aside0.mk hc0
  have q1 : 0 ≤ (a1.size : Int) := by omega
  have q2 : (a1.size : Int) ≤ 1000000000000 := by omega
  have HB := Aside0.mk (Below.refl w.heap.size w)
  have hcv := fun W => print_bytes (P := Try.prog) 9 22 5 Try.underlying9 Try.underlying22 Try.underlying5 a1 W
  clear h hc hr0 hc0 hs hl
  go_enter Try.func20, Try.ntmps20
  go_wp2_with (first | ((with_reducible refine gate_dst (N := 6) rfl ?_); refine Kd.R_lit (Kd.int .u8) _ 5 ?hg (N := 6) ?hd (xs := ([] : List Int)) (inner := []) (ok := fun _ => True) (okp := fun _ => True) ?hr ?hp (fun _ hk => hk) trivial (Below.refl _ _) (Nat.le_refl _) (by simp) ?_; (case hd => rfl); (case hg => rfl); (case hr => first | (go_simp; done) | (go_simp; rfl)); (case hp => exact (Reps.none _ _)); intro v1 w1 ho hb hg_ hnew_; clear hg_ hnew_; clear HB; have HO := Aside0.mk ho; have HB := Aside0.mk hb; clear ho hb) | ((with_reducible refine gate_builtin (b := .append) (xs := #[.tmp 6, .tmp 7]) rfl ?_); at_builtin; refine Kd.R_append_rows (Kd.int .u8) (w0 := w) w.heap.size rfl (.tmp 6) (.tmp 7) 22 5 (.int .u8 0) 1 rfl Try.underlying22 info5 rfl (by decide) (by omega) v1 [] l0 _ _ _ (fun _ => True) (fun _ => False) rfl rfl ?aO ?aR (fun _ _ h => h) (fun _ h => h.elim) ?aF ?aB ?aS ?aL ?_; (case aR => exact (Kd.C_below HR0.out HB.out)); (case aB => exact HB.out); (case aF => exact (fun _ _ => trivial)); (case aO => exact HO.out); (case aS => exact (below_size HB.out)); (case aL => have := HL.out; simp; omega); intro v2 w2 ho hb hg hat; clear HO HB; have HO := Aside0.mk ho; have HB := Aside0.mk hb; clear ho hb hg hat) | ((with_reducible refine gate_dst (N := 17) rfl ?_); refine Kd.R_lit (Kd.int .u8) _ 5 ?hg (N := 17) ?hd (xs := ([((a1.size : Int) / 256) % 256, (a1.size : Int) % 256] : List Int)) (inner := [.int .u8 (((a1.size : Int) / 256) % 256), .int .u8 ((a1.size : Int) % 256)]) (ok := fun _ => True) (okp := fun _ => True) ?hr ?hp (fun _ hk => hk) trivial (Below.refl _ _) (Nat.le_refl _) (by simp) ?_; (case hd => rfl); (case hg => rfl); (case hr => first | (go_simp; done) | (go_simp; rfl)); (case hp => exact (Reps.snoc (p := (a1.size : Int) % 256) (c := [.int .u8 ((a1.size : Int) % 256)]) (Reps.snoc (p := ((a1.size : Int) / 256) % 256) (c := [.int .u8 (((a1.size : Int) / 256) % 256)]) (Reps.none _ _) rfl rfl) rfl rfl)); intro v3 w3 ho hb hg_ hnew_; clear hg_ hnew_; have HO2 := Aside0.mk (Kd.R_reads ho); have n1_ := Aside0.mk (Kd.R_below HO.out hb); have n2_ := Aside0.mk (below_step HB.out hb); clear HO HB; have HO := n1_; have HB := n2_; clear n1_ n2_ ho hb; obtain ⟨A3, c3, e3, hc3, hC3⟩ := HO2.out; subst e3; have HC3 := Aside0.mk hC3; clear HO2 hc3 hC3) | ((with_reducible refine gate_builtin (b := .append) (xs := #[.tmp 8, .tmp 17]) rfl ?_); at_builtin; refine Kd.R_append_rows (Kd.int .u8) (w0 := w) w.heap.size rfl (.tmp 8) (.tmp 17) 22 5 (.int .u8 0) 1 rfl Try.underlying22 info5 rfl (by decide) (by omega) v2 l0 [((a1.size : Int) / 256) % 256, (a1.size : Int) % 256] _ _ _ (fun _ => True) (fun _ => False) rfl rfl ?aO ?aR (fun _ _ h => h) (fun _ h => h.elim) ?aF ?aB ?aS ?aL ?_; (case aR => exact HC3.out); (case aB => exact HB.out); (case aF => exact (fun _ _ => trivial)); (case aO => exact HO.out); (case aS => exact (below_size HB.out)); (case aL => have := HL.out; simp; omega); intro v4 w4 ho hb hg hat; clear HO HB; have HO := Aside0.mk ho; have HB := Aside0.mk hb; clear ho hb hg hat) | ((with_reducible refine gate_builtin (b := .append) (xs := #[.tmp 19, .tmp 21]) rfl ?_); at_builtin; refine R_append_w (w0 := w) w.heap.size rfl (.tmp 19) (.tmp 21) 22 5 rfl Try.underlying22 info5 v4 (l0 ++ [((a1.size : Int) / 256) % 256, (a1.size : Int) % 256]) (bytesOf a1) ⟨w4.heap.size, 0, none⟩ _ _ rfl rfl (Kd.R_below HO.out (bytes_below (Below.refl w4.heap.size w4) (Nat.le_refl _) 5 a1)) (C_bytes w4 a1 (by have := HL.out; omega)) (below_step HB.out (bytes_below (Below.refl w4.heap.size w4) (Nat.le_refl _) 5 a1)) (below_size (below_step HB.out (bytes_below (Below.refl w4.heap.size w4) (Nat.le_refl _) 5 a1))) (by have := HL.out; simp; omega) ?_; intro v5 w5 ho hb; clear HO HB; have HO := Aside0.mk ho; have HB := Aside0.mk hb; clear ho hb))
  go_ret
  exact ⟨_, rfl, HO.out, HB.out⟩
end PutsB
open PutsB
def OctetPuts.T3 : Bool × List (List Nat × List Nat) := (true, [([], []), ([0, 0], [0]), ([1], [1]), ([2, 1], [1, 2]), ([1, 3], [1, 3]), ([4, 1], [4]), ([5], [5]), ([6, 5], [5, 6]), ([7, 5], [5, 7]), ([5, 8], [5, 8]), ([9, 5], [9]), ([10], [10]), ([10], [10]), ([11, 12, 10, 10], [10, 11, 12]), ([13, 10], [10, 13]), ([10], [10]), ([10], [10]), ([15, 16, 13, 10], [10, 15, 16]), ([17, 10], [10, 17]), ([14, 18, 10], [10, 14, 18]), ([10, 19], [10, 19]), ([20, 17, 0, 1, 2, 3, 4, 5, 6, 7, 8, 9, 10, 11, 12, 13, 14, 15, 16, 17, 18, 19, 20], [20])])
def OctetPuts.B3 : List Nat := [0, 1, 3, 7, 15, 31, 63, 127, 255, 511, 1023, 2047, 2047, 8191, 16383, 2047, 2047, 114687, 245759, 524287, 1048575, 2097151]
theorem OctetPuts.tab3 : rtab .any (opsOf Try.f3 3) = OctetPuts.T3 := by kernel_rfl
theorem OctetPuts.bits3 : waitsOk OctetPuts.T3.2 OctetPuts.B3 = true := by kernel_rfl
def OctetPuts.T4 : Bool × List (List Nat × List Nat) := (true, [([], []), ([0, 0], [0]), ([1], [1]), ([2, 1], [1, 2]), ([1, 3], [1, 3]), ([4, 1], [4]), ([5], [5]), ([6, 5], [5, 6]), ([5], [5]), ([5], [5]), ([8, 9, 5, 5], [5, 8, 9]), ([10, 5], [5, 10]), ([7, 11, 5], [5, 7, 11]), ([5, 12], [5, 12]), ([13, 10], [13]), ([14], [14]), ([14], [14]), ([15, 16, 14, 14], [14, 15, 16]), ([17, 14], [14, 17]), ([14], [14]), ([14], [14]), ([19, 20, 17, 14], [14, 19, 20]), ([21, 14], [14, 21]), ([18, 22, 14], [14, 18, 22]), ([14, 23], [14, 23]), ([24, 21, 0, 1, 2, 3, 4, 5, 6, 7, 8, 9, 10, 11, 12, 13, 14, 15, 16, 17, 18, 19, 20, 21, 22, 23, 24], [24])])
def OctetPuts.B4 : List Nat := [0, 1, 3, 7, 15, 31, 63, 127, 63, 63, 831, 1855, 4095, 8191, 16383, 32767, 32767, 131071, 262143, 32767, 32767, 1835007, 3932159, 8388607, 16777215, 33554431]
theorem OctetPuts.tab4 : rtab .any (opsOf Try.f3 4) = OctetPuts.T4 := by kernel_rfl
theorem OctetPuts.bits4 : waitsOk OctetPuts.T4.2 OctetPuts.B4 = true := by kernel_rfl
set_option maxHeartbeats 8000000 in
set_option maxRecDepth 100000 in
theorem prebendlaw03_OctetPuts.walk (P : prebendlaw03_OctetPuts.Pure) (A0 : Option Addr) (c0 : Nat) (l0 : List Int) (a1 : Int) (a2 : ByteArray) (w : World) (hr0 : Kd.C (Kd.int .u8) w A0 l0.length l0) (hc0 : l0.length ≤ c0) (g0 : l0.length ≤ maxLen ∧ ∀ x ∈ l0, (Lit.int .u8 x).wf = true) (y0 : l0.length * 1 ≤ 140737488351232) (w1_ : (Lit.int .i64 a1).wf = true) (w2_ : a2.size ≤ 140737488351232) :
    Calls Try.prog 3 #[.slice A0 l0.length c0, .int .i64 a1, .string a2] w fun e w' => e = .returned (.bool true) ∧ Below w.heap.size w w' := by
  have HR0 := Aside0.mk hr0
  have HC0 := Aside0.mk hc0
  have HB := Aside0.mk (Below.refl w.heap.size w)
  obtain ⟨t2, ht2⟩ : ∃ t2, l0 ++ beN 8 a1 = t2 := ⟨_, rfl⟩
  have HREF : Aside0 (prebendref03_Int.f 9 l0 a1 = some t2) := ⟨by rw [← ht2]; exact ref_be l0 a1 (by omega)⟩
  have K1 : Aside0 (∀ (W : World), Below w.heap.size w W → Calls Try.prog 18 #[.slice A0 l0.length c0, .int .i64 a1] W fun e w' => ∃ A c, e = .returned (.slice A t2.length c) ∧ Kd.V (Kd.int .u8) 5 w' 0 (fun k => W.heap.size ≤ k) (.slice A t2.length c) t2 ∧ Below W.heap.size W w') := ⟨fun W hB => by rw [← ht2]; exact int_V A0 c0 l0 a1 W (Kd.C_below hr0 hB) hc0 (by omega)⟩
  obtain ⟨b2, hb2⟩ : ∃ b2, l0 ++ (beN 2 (a2.size : Int) ++ bytesOf a2) = b2 := ⟨_, rfl⟩
  have HBE : Aside0 (l0 ++ [((a2.size : Int) / 256) % 256, (a2.size : Int) % 256] ++ bytesOf a2 = b2) := ⟨by rw [← hb2]; simp [beN]⟩
  by_cases hs : a2.size ≤ 65535
  · have K2 : Aside0 (∀ (W : World), Below w.heap.size w W → Calls Try.prog 16 #[.slice A0 l0.length c0, .string a2] W fun e w' => ∃ A c, e = .returned (.tuple #[.slice A b2.length c, .int .i64 0]) ∧ Kd.V (Kd.int .u8) 5 w' 0 (fun k => W.heap.size ≤ k) (.slice A b2.length c) b2 ∧ Below W.heap.size W w') := ⟨fun W hB => by rw [← hb2]; exact text_w A0 c0 l0 a2 W (Kd.C_below hr0 hB) hc0 hs (by omega)⟩
    have HSZ : Aside0 (a2.size ≤ 65535 ∧ l0.length ≤ 140737488351232) := ⟨hs, by omega⟩
    have d1 : decide (65535 < (a2.size : Int)) = false := decide_eq_false (by omega)
    have d2 : decide (65535 < a2.size) = false := decide_eq_false (by omega)
    clear hr0 hc0 g0 y0 w1_ w2_ ht2 hb2 hs P
    go_enter Try.func3, Try.ntmps3
    go_upto_region 4 with (first | (go_at_call 16; (with_reducible refine (K2.out _ HB.out).mono ?_); rintro e w1 ⟨Ac, cc, rfl, hv, hb⟩; have HVc := Aside0.mk (Kd.V_mono (ok' := fun _ => True) hv (fun _ _ => trivial)); have n_ := Aside0.mk (below_step HB.out hb); clear HB; have HB := n_; clear n_ hb hv))
    refine start_ (n := 26) (S := fun w' => (convert 22 9 (.slice Ac b2.length cc)).run Try.prog w' = .ok (.string (strOfNums b2)) w') (ds := []) #[false, false, false, false, false, false, false, false, false, false, false, false, false, false, false, false, false, false, false, false, false, false, false, false, false, false] (by kernel_rfl) rfl rfl (conv_C cc (Kd.V_reads' (Kd.V_below HVc.out (below_drew (Below.refl _ _)))).2.2) (fun hHeld => ?_); refine with_tabW OctetPuts.tab4 OctetPuts.bits4 (fun HT_ HW_ => ?_)
    have n_ := Aside0.mk (below_step HB.out (below_drew (Below.refl _ _)))
    have n2_ := Aside0.mk (Kd.V_below HVc.out (below_drew (Below.refl _ _)))
    clear HB HVc
    have HB := n_
    have HVc := n2_
    clear n_ n2_
    generalize World.drew _ = wz at HB HVc hHeld ⊢
    refine one_ (i := 0) (N := some 39) #[true, false, false, false, false, false, false, false, false, false, false, false, false, false, false, false, false, false, false, false, false, false, false, false, false, false] rfl rfl (one_of HT_.out (by kernel_rfl)) (by decide) (fun K hK => ?_)
    refine goes_ Try.func17 (by kernel_rfl) rfl #[] (by rfl) rfl rfl (by (try simp only [List.map_toArray, List.map_cons, List.map_nil]); first | done | rfl | (simp only [List.length_drop, List.length_take]; rfl)) ?_
    with_reducible refine (prebendlaw03_awake.true_ _).mono ?_
    rintro e wq0 ⟨rfl, hb⟩; have nc_ := Aside0.mk (Kd.V_below HVc.out hb); clear HVc; have HVc := nc_; clear nc_; have n_ := Aside0.mk (below_step HB.out hb); clear HB; have HB := n_; clear n_ hb
    refine ⟨_, rfl, ?_⟩
    refine hK.out _ _ (conv_C cc (Kd.V_reads' HVc.out).2.2) (fun hHeld => ?_)
    clear hK K
    refine norm_ (a' := ?_) ?_ ?_
    rotate_left
    · show Act.put _ (some 39) _ = _
      simp only [Act.put, List.setIfInBounds_toArray, List.set_cons_zero, List.set_cons_succ, i64_w, i32_w]
      rfl
    refine pure_ (i := 1) (N := some 40) (v := ?_) (a' := ?_) #[true, true, false, false, false, false, false, false, false, false, false, false, false, false, false, false, false, false, false, false, false, false, false, false, false, false] rfl rfl (any_of HT_.out (by kernel_rfl)) (fun _ _ _ h => h) (Or.inl ⟨by rfl, ?_⟩) ?_ ?_
    rotate_left
    · intro w'
      go_simp
      with_reducible rfl
    rotate_left
    · simp only [Act.put, List.setIfInBounds_toArray, List.set_cons_zero, List.set_cons_succ, i64_w, i32_w]
      rfl
    refine pure_ (i := 2) (N := some 41) (v := ?_) (a' := ?_) #[true, true, true, false, false, false, false, false, false, false, false, false, false, false, false, false, false, false, false, false, false, false, false, false, false, false] rfl rfl (any_of HT_.out (by kernel_rfl)) (fun _ _ _ h => h) (Or.inl ⟨by rfl, ?_⟩) ?_ ?_
    rotate_left
    · intro w'
      go_simp
      with_reducible rfl
    rotate_left
    · simp only [Act.put, List.setIfInBounds_toArray, List.set_cons_zero, List.set_cons_succ, i64_w, i32_w]
      rfl
    refine pure_ (i := 3) (N := some 42) (v := ?_) (a' := ?_) #[true, true, true, true, false, false, false, false, false, false, false, false, false, false, false, false, false, false, false, false, false, false, false, false, false, false] rfl rfl (any_of HT_.out (by kernel_rfl)) (fun _ _ _ h => h) (Or.inl ⟨by rfl, ?_⟩) ?_ ?_
    rotate_left
    · intro w'
      go_simp
      with_reducible rfl
    rotate_left
    · simp only [Act.put, List.setIfInBounds_toArray, List.set_cons_zero, List.set_cons_succ, i64_w, i32_w]
      rfl
    refine pure_ (i := 4) (N := some 43) (v := ?_) (a' := ?_) #[true, true, true, true, true, false, false, false, false, false, false, false, false, false, false, false, false, false, false, false, false, false, false, false, false, false] rfl rfl (any_of HT_.out (by kernel_rfl)) (fun _ _ _ h => h) (Or.inl ⟨by rfl, ?_⟩) ?_ ?_
    rotate_left
    · intro w'
      go_simp
      with_reducible rfl
    rotate_left
    · simp only [Act.put, List.setIfInBounds_toArray, List.set_cons_zero, List.set_cons_succ, i64_w, i32_w]
      rfl
    refine pure_ (i := 5) (N := some 44) (v := ?_) (a' := ?_) #[true, true, true, true, true, true, false, false, false, false, false, false, false, false, false, false, false, false, false, false, false, false, false, false, false, false] rfl rfl (any_of HT_.out (by kernel_rfl)) (fun _ _ _ h => h) (Or.inl ⟨by rfl, ?_⟩) ?_ ?_
    rotate_left
    · intro w'
      go_simp
      with_reducible rfl
    rotate_left
    · simp only [Act.put, List.setIfInBounds_toArray, List.set_cons_zero, List.set_cons_succ, i64_w, i32_w]
      rfl
    refine pure_ (i := 6) (N := some 45) (v := ?_) (a' := ?_) #[true, true, true, true, true, true, true, false, false, false, false, false, false, false, false, false, false, false, false, false, false, false, false, false, false, false] rfl rfl (any_of HT_.out (by kernel_rfl)) (fun _ _ _ h => h) (Or.inl ⟨by rfl, ?_⟩) ?_ ?_
    rotate_left
    · intro w'
      go_simp
      with_reducible rfl
    rotate_left
    · simp only [Act.put, List.setIfInBounds_toArray, List.set_cons_zero, List.set_cons_succ, i64_w, i32_w]
      rfl
    refine take_ (i := 7) (N := some 46) (v := ?_) (a' := ?_) #[true, true, true, true, true, true, true, true, false, false, false, false, false, false, false, false, false, false, false, false, false, false, false, false, false, false] rfl rfl (take_ofW HT_.out HW_.out (by kernel_rfl)) (fun _ _ _ h => h) (Or.inl ⟨by rfl, ?_⟩) hHeld ?_ ?_
    rotate_left
    · rintro w' hs_
      go_simp
      with_reducible rfl
    rotate_left
    · simp only [Act.put, List.setIfInBounds_toArray, List.set_cons_zero, List.set_cons_succ, i64_w, i32_w]
      rfl
    refine pure_ (i := 8) (N := some 47) (v := ?_) (a' := ?_) #[true, true, true, true, true, true, true, true, true, false, false, false, false, false, false, false, false, false, false, false, false, false, false, false, false, false] rfl rfl (any_of HT_.out (by kernel_rfl)) (fun _ _ _ h => h) (Or.inl ⟨by rfl, ?_⟩) ?_ ?_
    rotate_left
    · intro w'
      go_simp
      with_reducible rfl
    rotate_left
    · simp only [Act.put, List.setIfInBounds_toArray, List.set_cons_zero, List.set_cons_succ, i64_w, i32_w]
      rfl
    refine pure_ (i := 9) (N := some 48) (v := ?_) (a' := ?_) #[true, true, true, true, true, true, true, true, true, true, false, false, false, false, false, false, false, false, false, false, false, false, false, false, false, false] rfl rfl (any_of HT_.out (by kernel_rfl)) (fun _ _ _ h => h) (Or.inl ⟨by rfl, ?_⟩) ?_ ?_
    rotate_left
    · intro w'
      go_simp
      with_reducible rfl
    rotate_left
    · simp only [Act.put, List.setIfInBounds_toArray, List.set_cons_zero, List.set_cons_succ, i64_w, i32_w]
      rfl
    refine one_ (i := 10) (N := some 49) #[true, true, true, true, true, true, true, true, true, true, true, false, false, false, false, false, false, false, false, false, false, false, false, false, false, false] rfl rfl (one_of HT_.out (by kernel_rfl)) (by decide) (fun K hK => ?_)
    refine goes_ Try.func20 (by kernel_rfl) rfl #[.slice A0 l0.length c0, .string a2] (by rfl) rfl rfl (by (try simp only [List.map_toArray, List.map_cons, List.map_nil]); first | done | rfl | (simp only [List.length_drop, List.length_take]; rfl)) ?_
    with_reducible refine (ref_w A0 c0 l0 a2 _ (Kd.C_below HR0.out HB.out) HC0.out HSZ.out.1 HSZ.out.2).mono ?_
    rintro e wq3 ⟨v9, rfl, hr, hb⟩; rw [HBE.out] at hr; obtain ⟨A9, c9, e9, hc9, hC9⟩ := Kd.R_reads hr; subst e9; have HC9 := Aside0.mk hC9; clear hr hc9 hC9; have nc_ := Aside0.mk (Kd.V_below HVc.out hb); clear HVc; have HVc := nc_; clear nc_; have n_ := Aside0.mk (below_step HB.out hb); clear HB; have HB := n_; clear n_ hb
    refine ⟨_, rfl, ?_⟩
    refine hK.out _ _ (conv_C cc (Kd.V_reads' HVc.out).2.2) (fun hHeld => ?_)
    clear hK K
    refine norm_ (a' := ?_) ?_ ?_
    rotate_left
    · show Act.put _ (some 49) _ = _
      simp only [Act.put, List.setIfInBounds_toArray, List.set_cons_zero, List.set_cons_succ, i64_w, i32_w]
      rfl
    refine one_ (i := 11) (N := some 50) #[true, true, true, true, true, true, true, true, true, true, true, true, false, false, false, false, false, false, false, false, false, false, false, false, false, false] rfl rfl (one_of HT_.out (by kernel_rfl)) (by decide) (fun K hK => ?_)
    have hcv11 := conv_C c9 HC9.out
    refine value_ (v := .string (strOfNums b2)) (w1 := ?_) (by rfl) rfl ?_ ?_
    rotate_left
    · go_simp
      rfl
    refine hK.out _ _ (conv_C cc (Kd.V_reads' HVc.out).2.2) (fun hHeld => ?_)
    clear hK K
    refine norm_ (a' := ?_) ?_ ?_
    rotate_left
    · show Act.put _ (some 50) _ = _
      simp only [Act.put, List.setIfInBounds_toArray, List.set_cons_zero, List.set_cons_succ, i64_w, i32_w]
      rfl
    refine pure_ (i := 12) (N := some 51) (v := ?_) (a' := ?_) #[true, true, true, true, true, true, true, true, true, true, true, true, true, false, false, false, false, false, false, false, false, false, false, false, false, false] rfl rfl (any_of HT_.out (by kernel_rfl)) (fun _ _ _ h => h) (Or.inl ⟨by rfl, ?_⟩) ?_ ?_
    rotate_left
    · intro w'
      go_simp
      with_reducible rfl
    rotate_left
    · simp only [Act.put, List.setIfInBounds_toArray, List.set_cons_zero, List.set_cons_succ, i64_w, i32_w]
      rfl
    refine pure_ (i := 13) (N := some 52) (v := ?_) (a' := ?_) #[true, true, true, true, true, true, true, true, true, true, true, true, true, true, false, false, false, false, false, false, false, false, false, false, false, false] rfl rfl (any_of HT_.out (by kernel_rfl)) (fun _ _ _ h => h) (Or.inl ⟨by rfl, ?_⟩) ?_ ?_
    rotate_left
    · intro w'
      go_simp
      with_reducible rfl
    rotate_left
    · simp only [Act.put, List.setIfInBounds_toArray, List.set_cons_zero, List.set_cons_succ, i64_w, i32_w]
      rfl
    refine pure_ (i := 14) (N := some 53) (v := ?_) (a' := ?_) #[true, true, true, true, true, true, true, true, true, true, true, true, true, true, true, false, false, false, false, false, false, false, false, false, false, false] rfl rfl (any_of HT_.out (by kernel_rfl)) (fun _ _ _ h => h) (Or.inl ⟨by rfl, ?_⟩) ?_ ?_
    rotate_left
    · intro w'
      go_simp
      with_reducible rfl
    rotate_left
    · simp only [Act.put, List.setIfInBounds_toArray, List.set_cons_zero, List.set_cons_succ, i64_w, i32_w]
      rfl
    refine pure_ (i := 15) (N := some 54) (v := ?_) (a' := ?_) #[true, true, true, true, true, true, true, true, true, true, true, true, true, true, true, true, false, false, false, false, false, false, false, false, false, false] rfl rfl (any_of HT_.out (by kernel_rfl)) (fun _ _ _ h => h) (Or.inl ⟨by rfl, ?_⟩) ?_ ?_
    rotate_left
    · intro w'
      go_simp
      with_reducible rfl
    rotate_left
    · simp only [Act.put, List.setIfInBounds_toArray, List.set_cons_zero, List.set_cons_succ, i64_w, i32_w]
      rfl
    refine pure_ (i := 16) (N := some 55) (v := ?_) (a' := ?_) #[true, true, true, true, true, true, true, true, true, true, true, true, true, true, true, true, true, false, false, false, false, false, false, false, false, false] rfl rfl (any_of HT_.out (by kernel_rfl)) (fun _ _ _ h => h) (Or.inl ⟨by rfl, ?_⟩) ?_ ?_
    rotate_left
    · intro w'
      go_simp
      with_reducible rfl
    rotate_left
    · simp only [Act.put, List.setIfInBounds_toArray, List.set_cons_zero, List.set_cons_succ, i64_w, i32_w]
      rfl
    refine pure_ (i := 19) (N := some 58) (v := ?_) (a' := ?_) #[true, true, true, true, true, true, true, true, true, true, true, true, true, true, true, true, true, false, false, true, false, false, false, false, false, false] rfl rfl (any_of HT_.out (by kernel_rfl)) (fun _ _ _ h => h) (Or.inl ⟨by rfl, ?_⟩) ?_ ?_
    rotate_left
    · intro w'
      go_simp
      with_reducible rfl
    rotate_left
    · simp only [Act.put, List.setIfInBounds_toArray, List.set_cons_zero, List.set_cons_succ, i64_w, i32_w]
      rfl
    refine pure_ (i := 20) (N := some 59) (v := ?_) (a' := ?_) #[true, true, true, true, true, true, true, true, true, true, true, true, true, true, true, true, true, false, false, true, true, false, false, false, false, false] rfl rfl (any_of HT_.out (by kernel_rfl)) (fun _ _ _ h => h) (Or.inl ⟨by rfl, ?_⟩) ?_ ?_
    rotate_left
    · intro w'
      go_simp
      with_reducible rfl
    rotate_left
    · simp only [Act.put, List.setIfInBounds_toArray, List.set_cons_zero, List.set_cons_succ, i64_w, i32_w]
      rfl
    refine one_ (i := 17) (N := some 56) #[true, true, true, true, true, true, true, true, true, true, true, true, true, true, true, true, true, true, false, true, true, false, false, false, false, false] rfl rfl (one_of HT_.out (by kernel_rfl)) (by decide) (fun K hK => ?_)
    refine goes_ Try.func18 (by kernel_rfl) rfl #[.slice A0 l0.length c0, .int .i64 a1] (by rfl) rfl rfl (by (try simp only [List.map_toArray, List.map_cons, List.map_nil]); first | done | rfl | (simp only [List.length_drop, List.length_take]; rfl)) ?_
    with_reducible refine (K1.out _ HB.out).mono ?_
    rintro e wqa ⟨A7, c7, rfl, hv, hb⟩; have HV7 := Aside0.mk (Kd.V_mono (ok' := fun _ => True) hv (fun _ _ => trivial)); have nc_ := Aside0.mk (Kd.V_below HVc.out hb); clear HVc; have HVc := nc_; clear nc_; have n_ := Aside0.mk (below_step HB.out hb); clear HB; have HB := n_; clear n_ hb hv
    refine ⟨_, rfl, ?_⟩
    refine hK.out _ _ (conv_C cc (Kd.V_reads' HVc.out).2.2) (fun hHeld => ?_)
    clear hK K
    refine norm_ (a' := ?_) ?_ ?_
    rotate_left
    · show Act.put _ (some 56) _ = _
      simp only [Act.put, List.setIfInBounds_toArray, List.set_cons_zero, List.set_cons_succ, i64_w, i32_w]
      rfl
    refine two_ (i := 18) (j := 21) (Ni := some 57) (Nj := some 60) #[true, true, true, true, true, true, true, true, true, true, true, true, true, true, true, true, true, true, true, true, true, false, false, false, false, false] #[true, true, true, true, true, true, true, true, true, true, true, true, true, true, true, true, true, true, false, true, true, true, false, false, false, false] rfl rfl rfl rfl (two_of HT_.out (by kernel_rfl)) (by decide) (by decide) (fun K hK => ?_) (fun K hK => ?_)
    · have hcv18 := conv_C c7 (Kd.V_reads' HV7.out).2.2
      refine value_ (v := .string (strOfNums t2)) (w1 := ?_) (by rfl) rfl ?_ ?_
      rotate_left
      · go_simp
        rfl
      refine hK.out _ _ (conv_C cc (Kd.V_reads' HVc.out).2.2) (fun hHeld => ?_)
      clear hK K
      refine norm_ (a' := ?_) ?_ ?_
      rotate_left
      · show Act.put _ (some 57) _ = _
        simp only [Act.put, List.setIfInBounds_toArray, List.set_cons_zero, List.set_cons_succ, i64_w, i32_w]
        rfl
      refine one_ (i := 21) (N := some 60) #[true, true, true, true, true, true, true, true, true, true, true, true, true, true, true, true, true, true, true, true, true, true, false, false, false, false] rfl rfl (one_of HT_.out (by kernel_rfl)) (by decide) (fun K hK => ?_)
      refine goes_ Try.func19 (by kernel_rfl) rfl #[.slice A0 l0.length c0, .int .i64 a1] (by rfl) rfl rfl (by (try simp only [List.map_toArray, List.map_cons, List.map_nil]); first | done | rfl | (simp only [List.length_drop, List.length_take]; rfl)) ?_
      with_reducible refine (prebendref03_Int.calls 9 A0 c0 l0 a1 t2 _ (Kd.C_below HR0.out HB.out) HC0.out HREF.out).mono ?_
      rintro e wqb ⟨v8, rfl, hr, hb⟩; obtain ⟨A8, c8, e8, hc8, hC8⟩ := Kd.R_reads hr; subst e8; have HC8 := Aside0.mk hC8; have n7_ := Aside0.mk (Kd.V_below HV7.out hb); clear HV7; have HV7 := n7_; have nc_ := Aside0.mk (Kd.V_below HVc.out hb); clear HVc; have HVc := nc_; clear nc_; clear n7_ hr hc8 hC8; have n_ := Aside0.mk (below_step HB.out hb); clear HB; have HB := n_; clear n_ hb
      refine ⟨_, rfl, ?_⟩
      refine hK.out _ _ (conv_C cc (Kd.V_reads' HVc.out).2.2) (fun hHeld => ?_)
      clear hK K
      refine norm_ (a' := ?_) ?_ ?_
      rotate_left
      · show Act.put _ (some 60) _ = _
        simp only [Act.put, List.setIfInBounds_toArray, List.set_cons_zero, List.set_cons_succ, i64_w, i32_w]
        rfl
      refine one_ (i := 22) (N := some 61) #[true, true, true, true, true, true, true, true, true, true, true, true, true, true, true, true, true, true, true, true, true, true, true, false, false, false] rfl rfl (one_of HT_.out (by kernel_rfl)) (by decide) (fun K hK => ?_)
      have hcv22 := conv_C c8 HC8.out
      refine value_ (v := .string (strOfNums t2)) (w1 := ?_) (by rfl) rfl ?_ ?_
      rotate_left
      · go_simp
        rfl
      refine hK.out _ _ (conv_C cc (Kd.V_reads' HVc.out).2.2) (fun hHeld => ?_)
      clear hK K
      refine norm_ (a' := ?_) ?_ ?_
      rotate_left
      · show Act.put _ (some 61) _ = _
        simp only [Act.put, List.setIfInBounds_toArray, List.set_cons_zero, List.set_cons_succ, i64_w, i32_w]
        rfl
      refine pure_ (i := 23) (N := some 62) (v := ?_) (a' := ?_) #[true, true, true, true, true, true, true, true, true, true, true, true, true, true, true, true, true, true, true, true, true, true, true, true, false, false] rfl rfl (any_of HT_.out (by kernel_rfl)) (fun _ _ _ h => h) (Or.inl ⟨by rfl, ?_⟩) ?_ ?_
      rotate_left
      · intro w'
        go_simp
        with_reducible rfl
      rotate_left
      · simp only [Act.put, List.setIfInBounds_toArray, List.set_cons_zero, List.set_cons_succ, i64_w, i32_w]
        rfl
      refine pure_ (i := 24) (N := some 63) (v := ?_) (a' := ?_) #[true, true, true, true, true, true, true, true, true, true, true, true, true, true, true, true, true, true, true, true, true, true, true, true, true, false] rfl rfl (any_of HT_.out (by kernel_rfl)) (fun _ _ _ h => h) (Or.inl ⟨by rfl, ?_⟩) ?_ ?_
      rotate_left
      · intro w'
        go_simp
        with_reducible rfl
      rotate_left
      · simp only [Act.put, List.setIfInBounds_toArray, List.set_cons_zero, List.set_cons_succ, i64_w, i32_w]
        rfl
      refine pure_ (i := 25) (N := some 6) (v := ?_) (a' := ?_) #[true, true, true, true, true, true, true, true, true, true, true, true, true, true, true, true, true, true, true, true, true, true, true, true, true, true] rfl rfl (any_of HT_.out (by kernel_rfl)) (fun _ _ _ h => h) (Or.inl ⟨by rfl, ?_⟩) ?_ ?_
      rotate_left
      · intro w'
        go_simp
        with_reducible rfl
      rotate_left
      · simp only [Act.put, List.setIfInBounds_toArray, List.set_cons_zero, List.set_cons_succ, i64_w, i32_w]
        rfl
      refine done_ (done_of HT_.out (by kernel_rfl)) ?_
      try go_wp2
      go_ret
      exact ⟨by simp, HB.out⟩
    · refine goes_ Try.func19 (by kernel_rfl) rfl #[.slice A0 l0.length c0, .int .i64 a1] (by rfl) rfl rfl (by (try simp only [List.map_toArray, List.map_cons, List.map_nil]); first | done | rfl | (simp only [List.length_drop, List.length_take]; rfl)) ?_
      with_reducible refine (prebendref03_Int.calls 9 A0 c0 l0 a1 t2 _ (Kd.C_below HR0.out HB.out) HC0.out HREF.out).mono ?_
      rintro e wqb ⟨v8, rfl, hr, hb⟩; obtain ⟨A8, c8, e8, hc8, hC8⟩ := Kd.R_reads hr; subst e8; have HC8 := Aside0.mk hC8; have n7_ := Aside0.mk (Kd.V_below HV7.out hb); clear HV7; have HV7 := n7_; have nc_ := Aside0.mk (Kd.V_below HVc.out hb); clear HVc; have HVc := nc_; clear nc_; clear n7_ hr hc8 hC8; have n_ := Aside0.mk (below_step HB.out hb); clear HB; have HB := n_; clear n_ hb
      refine ⟨_, rfl, ?_⟩
      refine hK.out _ _ (conv_C cc (Kd.V_reads' HVc.out).2.2) (fun hHeld => ?_)
      clear hK K
      refine norm_ (a' := ?_) ?_ ?_
      rotate_left
      · show Act.put _ (some 60) _ = _
        simp only [Act.put, List.setIfInBounds_toArray, List.set_cons_zero, List.set_cons_succ, i64_w, i32_w]
        rfl
      refine two_ (i := 18) (j := 22) (Ni := some 57) (Nj := some 61) #[true, true, true, true, true, true, true, true, true, true, true, true, true, true, true, true, true, true, true, true, true, true, false, false, false, false] #[true, true, true, true, true, true, true, true, true, true, true, true, true, true, true, true, true, true, false, true, true, true, true, false, false, false] rfl rfl rfl rfl (two_of HT_.out (by kernel_rfl)) (by decide) (by decide) (fun K hK => ?_) (fun K hK => ?_)
      · have hcv18 := conv_C c7 (Kd.V_reads' HV7.out).2.2
        refine value_ (v := .string (strOfNums t2)) (w1 := ?_) (by rfl) rfl ?_ ?_
        rotate_left
        · go_simp
          rfl
        refine hK.out _ _ (conv_C cc (Kd.V_reads' HVc.out).2.2) (fun hHeld => ?_)
        clear hK K
        refine norm_ (a' := ?_) ?_ ?_
        rotate_left
        · show Act.put _ (some 57) _ = _
          simp only [Act.put, List.setIfInBounds_toArray, List.set_cons_zero, List.set_cons_succ, i64_w, i32_w]
          rfl
        refine one_ (i := 22) (N := some 61) #[true, true, true, true, true, true, true, true, true, true, true, true, true, true, true, true, true, true, true, true, true, true, true, false, false, false] rfl rfl (one_of HT_.out (by kernel_rfl)) (by decide) (fun K hK => ?_)
        have hcv22 := conv_C c8 HC8.out
        refine value_ (v := .string (strOfNums t2)) (w1 := ?_) (by rfl) rfl ?_ ?_
        rotate_left
        · go_simp
          rfl
        refine hK.out _ _ (conv_C cc (Kd.V_reads' HVc.out).2.2) (fun hHeld => ?_)
        clear hK K
        refine norm_ (a' := ?_) ?_ ?_
        rotate_left
        · show Act.put _ (some 61) _ = _
          simp only [Act.put, List.setIfInBounds_toArray, List.set_cons_zero, List.set_cons_succ, i64_w, i32_w]
          rfl
        refine pure_ (i := 23) (N := some 62) (v := ?_) (a' := ?_) #[true, true, true, true, true, true, true, true, true, true, true, true, true, true, true, true, true, true, true, true, true, true, true, true, false, false] rfl rfl (any_of HT_.out (by kernel_rfl)) (fun _ _ _ h => h) (Or.inl ⟨by rfl, ?_⟩) ?_ ?_
        rotate_left
        · intro w'
          go_simp
          with_reducible rfl
        rotate_left
        · simp only [Act.put, List.setIfInBounds_toArray, List.set_cons_zero, List.set_cons_succ, i64_w, i32_w]
          rfl
        refine pure_ (i := 24) (N := some 63) (v := ?_) (a' := ?_) #[true, true, true, true, true, true, true, true, true, true, true, true, true, true, true, true, true, true, true, true, true, true, true, true, true, false] rfl rfl (any_of HT_.out (by kernel_rfl)) (fun _ _ _ h => h) (Or.inl ⟨by rfl, ?_⟩) ?_ ?_
        rotate_left
        · intro w'
          go_simp
          with_reducible rfl
        rotate_left
        · simp only [Act.put, List.setIfInBounds_toArray, List.set_cons_zero, List.set_cons_succ, i64_w, i32_w]
          rfl
        refine pure_ (i := 25) (N := some 6) (v := ?_) (a' := ?_) #[true, true, true, true, true, true, true, true, true, true, true, true, true, true, true, true, true, true, true, true, true, true, true, true, true, true] rfl rfl (any_of HT_.out (by kernel_rfl)) (fun _ _ _ h => h) (Or.inl ⟨by rfl, ?_⟩) ?_ ?_
        rotate_left
        · intro w'
          go_simp
          with_reducible rfl
        rotate_left
        · simp only [Act.put, List.setIfInBounds_toArray, List.set_cons_zero, List.set_cons_succ, i64_w, i32_w]
          rfl
        refine done_ (done_of HT_.out (by kernel_rfl)) ?_
        try go_wp2
        go_ret
        exact ⟨by simp, HB.out⟩
      · have hcv22 := conv_C c8 HC8.out
        refine value_ (v := .string (strOfNums t2)) (w1 := ?_) (by rfl) rfl ?_ ?_
        rotate_left
        · go_simp
          rfl
        refine hK.out _ _ (conv_C cc (Kd.V_reads' HVc.out).2.2) (fun hHeld => ?_)
        clear hK K
        refine norm_ (a' := ?_) ?_ ?_
        rotate_left
        · show Act.put _ (some 61) _ = _
          simp only [Act.put, List.setIfInBounds_toArray, List.set_cons_zero, List.set_cons_succ, i64_w, i32_w]
          rfl
        refine one_ (i := 18) (N := some 57) #[true, true, true, true, true, true, true, true, true, true, true, true, true, true, true, true, true, true, true, true, true, true, true, false, false, false] rfl rfl (one_of HT_.out (by kernel_rfl)) (by decide) (fun K hK => ?_)
        have hcv18 := conv_C c7 (Kd.V_reads' HV7.out).2.2
        refine value_ (v := .string (strOfNums t2)) (w1 := ?_) (by rfl) rfl ?_ ?_
        rotate_left
        · go_simp
          rfl
        refine hK.out _ _ (conv_C cc (Kd.V_reads' HVc.out).2.2) (fun hHeld => ?_)
        clear hK K
        refine norm_ (a' := ?_) ?_ ?_
        rotate_left
        · show Act.put _ (some 57) _ = _
          simp only [Act.put, List.setIfInBounds_toArray, List.set_cons_zero, List.set_cons_succ, i64_w, i32_w]
          rfl
        refine pure_ (i := 23) (N := some 62) (v := ?_) (a' := ?_) #[true, true, true, true, true, true, true, true, true, true, true, true, true, true, true, true, true, true, true, true, true, true, true, true, false, false] rfl rfl (any_of HT_.out (by kernel_rfl)) (fun _ _ _ h => h) (Or.inl ⟨by rfl, ?_⟩) ?_ ?_
        rotate_left
        · intro w'
          go_simp
          with_reducible rfl
        rotate_left
        · simp only [Act.put, List.setIfInBounds_toArray, List.set_cons_zero, List.set_cons_succ, i64_w, i32_w]
          rfl
        refine pure_ (i := 24) (N := some 63) (v := ?_) (a' := ?_) #[true, true, true, true, true, true, true, true, true, true, true, true, true, true, true, true, true, true, true, true, true, true, true, true, true, false] rfl rfl (any_of HT_.out (by kernel_rfl)) (fun _ _ _ h => h) (Or.inl ⟨by rfl, ?_⟩) ?_ ?_
        rotate_left
        · intro w'
          go_simp
          with_reducible rfl
        rotate_left
        · simp only [Act.put, List.setIfInBounds_toArray, List.set_cons_zero, List.set_cons_succ, i64_w, i32_w]
          rfl
        refine pure_ (i := 25) (N := some 6) (v := ?_) (a' := ?_) #[true, true, true, true, true, true, true, true, true, true, true, true, true, true, true, true, true, true, true, true, true, true, true, true, true, true] rfl rfl (any_of HT_.out (by kernel_rfl)) (fun _ _ _ h => h) (Or.inl ⟨by rfl, ?_⟩) ?_ ?_
        rotate_left
        · intro w'
          go_simp
          with_reducible rfl
        rotate_left
        · simp only [Act.put, List.setIfInBounds_toArray, List.set_cons_zero, List.set_cons_succ, i64_w, i32_w]
          rfl
        refine done_ (done_of HT_.out (by kernel_rfl)) ?_
        try go_wp2
        go_ret
        exact ⟨by simp, HB.out⟩
  · have hs2 : 65535 < a2.size := by omega
    have HS := Aside0.mk hs2
    have d1 : decide (65535 < (a2.size : Int)) = true := decide_eq_true (by omega)
    have d2 : decide (65535 < a2.size) = true := decide_eq_true (by omega)
    clear hr0 hc0 g0 y0 w1_ w2_ ht2 hb2 hs hs2 P
    go_enter Try.func3, Try.ntmps3
    go_upto_region 3 with (first | (go_at_call 16; (with_reducible refine (text_over A0 c0 l0 a2 _ HS.out).mono ?_); rintro e w1 ⟨rfl, rfl⟩))
    refine start_ (n := 22) (S := fun _ => True) (ds := []) #[false, false, false, false, false, false, false, false, false, false, false, false, false, false, false, false, false, false, false, false, false, false] (by kernel_rfl) rfl rfl trivial (fun hHeld => ?_); refine with_tabW OctetPuts.tab3 OctetPuts.bits3 (fun HT_ HW_ => ?_)
    have n_ := Aside0.mk (below_step HB.out (below_drew (Below.refl _ _)))
    clear HB
    have HB := n_
    clear n_
    generalize World.drew _ = wz at HB hHeld ⊢
    refine one_ (i := 0) (N := some 18) #[true, false, false, false, false, false, false, false, false, false, false, false, false, false, false, false, false, false, false, false, false, false] rfl rfl (one_of HT_.out (by kernel_rfl)) (by decide) (fun K hK => ?_)
    refine goes_ Try.func17 (by kernel_rfl) rfl #[] (by rfl) rfl rfl (by (try simp only [List.map_toArray, List.map_cons, List.map_nil]); first | done | rfl | (simp only [List.length_drop, List.length_take]; rfl)) ?_
    with_reducible refine (prebendlaw03_awake.true_ _).mono ?_
    rintro e wq0 ⟨rfl, hb⟩; have n_ := Aside0.mk (below_step HB.out hb); clear HB; have HB := n_; clear n_ hb
    refine ⟨_, rfl, ?_⟩
    refine hK.out _ _ trivial (fun hHeld => ?_)
    clear hK K
    refine norm_ (a' := ?_) ?_ ?_
    rotate_left
    · show Act.put _ (some 18) _ = _
      simp only [Act.put, List.setIfInBounds_toArray, List.set_cons_zero, List.set_cons_succ, i64_w, i32_w]
      rfl
    refine pure_ (i := 1) (N := some 19) (v := ?_) (a' := ?_) #[true, true, false, false, false, false, false, false, false, false, false, false, false, false, false, false, false, false, false, false, false, false] rfl rfl (any_of HT_.out (by kernel_rfl)) (fun _ _ _ h => h) (Or.inl ⟨by rfl, ?_⟩) ?_ ?_
    rotate_left
    · intro w'
      go_simp
      with_reducible rfl
    rotate_left
    · simp only [Act.put, List.setIfInBounds_toArray, List.set_cons_zero, List.set_cons_succ, i64_w, i32_w]
      rfl
    refine pure_ (i := 2) (N := some 20) (v := ?_) (a' := ?_) #[true, true, true, false, false, false, false, false, false, false, false, false, false, false, false, false, false, false, false, false, false, false] rfl rfl (any_of HT_.out (by kernel_rfl)) (fun _ _ _ h => h) (Or.inl ⟨by rfl, ?_⟩) ?_ ?_
    rotate_left
    · intro w'
      go_simp
      with_reducible rfl
    rotate_left
    · simp only [Act.put, List.setIfInBounds_toArray, List.set_cons_zero, List.set_cons_succ, i64_w, i32_w]
      rfl
    refine pure_ (i := 3) (N := some 21) (v := ?_) (a' := ?_) #[true, true, true, true, false, false, false, false, false, false, false, false, false, false, false, false, false, false, false, false, false, false] rfl rfl (any_of HT_.out (by kernel_rfl)) (fun _ _ _ h => h) (Or.inl ⟨by rfl, ?_⟩) ?_ ?_
    rotate_left
    · intro w'
      go_simp
      with_reducible rfl
    rotate_left
    · simp only [Act.put, List.setIfInBounds_toArray, List.set_cons_zero, List.set_cons_succ, i64_w, i32_w]
      rfl
    refine pure_ (i := 4) (N := some 22) (v := ?_) (a' := ?_) #[true, true, true, true, true, false, false, false, false, false, false, false, false, false, false, false, false, false, false, false, false, false] rfl rfl (any_of HT_.out (by kernel_rfl)) (fun _ _ _ h => h) (Or.inl ⟨by rfl, ?_⟩) ?_ ?_
    rotate_left
    · intro w'
      go_simp
      with_reducible rfl
    rotate_left
    · simp only [Act.put, List.setIfInBounds_toArray, List.set_cons_zero, List.set_cons_succ, i64_w, i32_w]
      rfl
    refine pure_ (i := 5) (N := some 23) (v := ?_) (a' := ?_) #[true, true, true, true, true, true, false, false, false, false, false, false, false, false, false, false, false, false, false, false, false, false] rfl rfl (any_of HT_.out (by kernel_rfl)) (fun _ _ _ h => h) (Or.inl ⟨by rfl, ?_⟩) ?_ ?_
    rotate_left
    · intro w'
      go_simp
      with_reducible rfl
    rotate_left
    · simp only [Act.put, List.setIfInBounds_toArray, List.set_cons_zero, List.set_cons_succ, i64_w, i32_w]
      rfl
    refine pure_ (i := 6) (N := some 24) (v := ?_) (a' := ?_) #[true, true, true, true, true, true, true, false, false, false, false, false, false, false, false, false, false, false, false, false, false, false] rfl rfl (any_of HT_.out (by kernel_rfl)) (fun _ _ _ h => h) (Or.inl ⟨by rfl, ?_⟩) ?_ ?_
    rotate_left
    · intro w'
      go_simp
      with_reducible rfl
    rotate_left
    · simp only [Act.put, List.setIfInBounds_toArray, List.set_cons_zero, List.set_cons_succ, i64_w, i32_w]
      rfl
    refine pure_ (i := 7) (N := some 25) (v := ?_) (a' := ?_) #[true, true, true, true, true, true, true, true, false, false, false, false, false, false, false, false, false, false, false, false, false, false] rfl rfl (any_of HT_.out (by kernel_rfl)) (fun _ _ _ h => h) (Or.inl ⟨by rfl, ?_⟩) ?_ ?_
    rotate_left
    · intro w'
      go_simp
      with_reducible rfl
    rotate_left
    · simp only [Act.put, List.setIfInBounds_toArray, List.set_cons_zero, List.set_cons_succ, i64_w, i32_w]
      rfl
    refine pure_ (i := 8) (N := some 26) (v := ?_) (a' := ?_) #[true, true, true, true, true, true, true, true, true, false, false, false, false, false, false, false, false, false, false, false, false, false] rfl rfl (any_of HT_.out (by kernel_rfl)) (fun _ _ _ h => h) (Or.inl ⟨by rfl, ?_⟩) ?_ ?_
    rotate_left
    · intro w'
      go_simp
      with_reducible rfl
    rotate_left
    · simp only [Act.put, List.setIfInBounds_toArray, List.set_cons_zero, List.set_cons_succ, i64_w, i32_w]
      rfl
    refine pure_ (i := 9) (N := some 27) (v := ?_) (a' := ?_) #[true, true, true, true, true, true, true, true, true, true, false, false, false, false, false, false, false, false, false, false, false, false] rfl rfl (any_of HT_.out (by kernel_rfl)) (fun _ _ _ h => h) (Or.inl ⟨by rfl, ?_⟩) ?_ ?_
    rotate_left
    · intro w'
      go_simp
      with_reducible rfl
    rotate_left
    · simp only [Act.put, List.setIfInBounds_toArray, List.set_cons_zero, List.set_cons_succ, i64_w, i32_w]
      rfl
    refine pure_ (i := 10) (N := some 28) (v := ?_) (a' := ?_) #[true, true, true, true, true, true, true, true, true, true, true, false, false, false, false, false, false, false, false, false, false, false] rfl rfl (any_of HT_.out (by kernel_rfl)) (fun _ _ _ h => h) (Or.inl ⟨by rfl, ?_⟩) ?_ ?_
    rotate_left
    · intro w'
      go_simp
      with_reducible rfl
    rotate_left
    · simp only [Act.put, List.setIfInBounds_toArray, List.set_cons_zero, List.set_cons_succ, i64_w, i32_w]
      rfl
    refine pure_ (i := 11) (N := some 29) (v := ?_) (a' := ?_) #[true, true, true, true, true, true, true, true, true, true, true, true, false, false, false, false, false, false, false, false, false, false] rfl rfl (any_of HT_.out (by kernel_rfl)) (fun _ _ _ h => h) (Or.inl ⟨by rfl, ?_⟩) ?_ ?_
    rotate_left
    · intro w'
      go_simp
      with_reducible rfl
    rotate_left
    · simp only [Act.put, List.setIfInBounds_toArray, List.set_cons_zero, List.set_cons_succ, i64_w, i32_w]
      rfl
    refine pure_ (i := 12) (N := some 30) (v := ?_) (a' := ?_) #[true, true, true, true, true, true, true, true, true, true, true, true, true, false, false, false, false, false, false, false, false, false] rfl rfl (any_of HT_.out (by kernel_rfl)) (fun _ _ _ h => h) (Or.inl ⟨by rfl, ?_⟩) ?_ ?_
    rotate_left
    · intro w'
      go_simp
      with_reducible rfl
    rotate_left
    · simp only [Act.put, List.setIfInBounds_toArray, List.set_cons_zero, List.set_cons_succ, i64_w, i32_w]
      rfl
    refine pure_ (i := 15) (N := some 33) (v := ?_) (a' := ?_) #[true, true, true, true, true, true, true, true, true, true, true, true, true, false, false, true, false, false, false, false, false, false] rfl rfl (any_of HT_.out (by kernel_rfl)) (fun _ _ _ h => h) (Or.inl ⟨by rfl, ?_⟩) ?_ ?_
    rotate_left
    · intro w'
      go_simp
      with_reducible rfl
    rotate_left
    · simp only [Act.put, List.setIfInBounds_toArray, List.set_cons_zero, List.set_cons_succ, i64_w, i32_w]
      rfl
    refine pure_ (i := 16) (N := some 34) (v := ?_) (a' := ?_) #[true, true, true, true, true, true, true, true, true, true, true, true, true, false, false, true, true, false, false, false, false, false] rfl rfl (any_of HT_.out (by kernel_rfl)) (fun _ _ _ h => h) (Or.inl ⟨by rfl, ?_⟩) ?_ ?_
    rotate_left
    · intro w'
      go_simp
      with_reducible rfl
    rotate_left
    · simp only [Act.put, List.setIfInBounds_toArray, List.set_cons_zero, List.set_cons_succ, i64_w, i32_w]
      rfl
    refine one_ (i := 13) (N := some 31) #[true, true, true, true, true, true, true, true, true, true, true, true, true, true, false, true, true, false, false, false, false, false] rfl rfl (one_of HT_.out (by kernel_rfl)) (by decide) (fun K hK => ?_)
    refine goes_ Try.func18 (by kernel_rfl) rfl #[.slice A0 l0.length c0, .int .i64 a1] (by rfl) rfl rfl (by (try simp only [List.map_toArray, List.map_cons, List.map_nil]); first | done | rfl | (simp only [List.length_drop, List.length_take]; rfl)) ?_
    with_reducible refine (K1.out _ HB.out).mono ?_
    rintro e wqa ⟨A7, c7, rfl, hv, hb⟩; have HV7 := Aside0.mk (Kd.V_mono (ok' := fun _ => True) hv (fun _ _ => trivial)); have n_ := Aside0.mk (below_step HB.out hb); clear HB; have HB := n_; clear n_ hb hv
    refine ⟨_, rfl, ?_⟩
    refine hK.out _ _ trivial (fun hHeld => ?_)
    clear hK K
    refine norm_ (a' := ?_) ?_ ?_
    rotate_left
    · show Act.put _ (some 31) _ = _
      simp only [Act.put, List.setIfInBounds_toArray, List.set_cons_zero, List.set_cons_succ, i64_w, i32_w]
      rfl
    refine two_ (i := 14) (j := 17) (Ni := some 32) (Nj := some 35) #[true, true, true, true, true, true, true, true, true, true, true, true, true, true, true, true, true, false, false, false, false, false] #[true, true, true, true, true, true, true, true, true, true, true, true, true, true, false, true, true, true, false, false, false, false] rfl rfl rfl rfl (two_of HT_.out (by kernel_rfl)) (by decide) (by decide) (fun K hK => ?_) (fun K hK => ?_)
    · have hcv14 := conv_C c7 (Kd.V_reads' HV7.out).2.2
      refine value_ (v := .string (strOfNums t2)) (w1 := ?_) (by rfl) rfl ?_ ?_
      rotate_left
      · go_simp
        rfl
      refine hK.out _ _ trivial (fun hHeld => ?_)
      clear hK K
      refine norm_ (a' := ?_) ?_ ?_
      rotate_left
      · show Act.put _ (some 32) _ = _
        simp only [Act.put, List.setIfInBounds_toArray, List.set_cons_zero, List.set_cons_succ, i64_w, i32_w]
        rfl
      refine one_ (i := 17) (N := some 35) #[true, true, true, true, true, true, true, true, true, true, true, true, true, true, true, true, true, true, false, false, false, false] rfl rfl (one_of HT_.out (by kernel_rfl)) (by decide) (fun K hK => ?_)
      refine goes_ Try.func19 (by kernel_rfl) rfl #[.slice A0 l0.length c0, .int .i64 a1] (by rfl) rfl rfl (by (try simp only [List.map_toArray, List.map_cons, List.map_nil]); first | done | rfl | (simp only [List.length_drop, List.length_take]; rfl)) ?_
      with_reducible refine (prebendref03_Int.calls 9 A0 c0 l0 a1 t2 _ (Kd.C_below HR0.out HB.out) HC0.out HREF.out).mono ?_
      rintro e wqb ⟨v8, rfl, hr, hb⟩; obtain ⟨A8, c8, e8, hc8, hC8⟩ := Kd.R_reads hr; subst e8; have HC8 := Aside0.mk hC8; have n7_ := Aside0.mk (Kd.V_below HV7.out hb); clear HV7; have HV7 := n7_; clear n7_ hr hc8 hC8; have n_ := Aside0.mk (below_step HB.out hb); clear HB; have HB := n_; clear n_ hb
      refine ⟨_, rfl, ?_⟩
      refine hK.out _ _ trivial (fun hHeld => ?_)
      clear hK K
      refine norm_ (a' := ?_) ?_ ?_
      rotate_left
      · show Act.put _ (some 35) _ = _
        simp only [Act.put, List.setIfInBounds_toArray, List.set_cons_zero, List.set_cons_succ, i64_w, i32_w]
        rfl
      refine one_ (i := 18) (N := some 36) #[true, true, true, true, true, true, true, true, true, true, true, true, true, true, true, true, true, true, true, false, false, false] rfl rfl (one_of HT_.out (by kernel_rfl)) (by decide) (fun K hK => ?_)
      have hcv18 := conv_C c8 HC8.out
      refine value_ (v := .string (strOfNums t2)) (w1 := ?_) (by rfl) rfl ?_ ?_
      rotate_left
      · go_simp
        rfl
      refine hK.out _ _ trivial (fun hHeld => ?_)
      clear hK K
      refine norm_ (a' := ?_) ?_ ?_
      rotate_left
      · show Act.put _ (some 36) _ = _
        simp only [Act.put, List.setIfInBounds_toArray, List.set_cons_zero, List.set_cons_succ, i64_w, i32_w]
        rfl
      refine pure_ (i := 19) (N := some 37) (v := ?_) (a' := ?_) #[true, true, true, true, true, true, true, true, true, true, true, true, true, true, true, true, true, true, true, true, false, false] rfl rfl (any_of HT_.out (by kernel_rfl)) (fun _ _ _ h => h) (Or.inl ⟨by rfl, ?_⟩) ?_ ?_
      rotate_left
      · intro w'
        go_simp
        with_reducible rfl
      rotate_left
      · simp only [Act.put, List.setIfInBounds_toArray, List.set_cons_zero, List.set_cons_succ, i64_w, i32_w]
        rfl
      refine pure_ (i := 20) (N := some 38) (v := ?_) (a' := ?_) #[true, true, true, true, true, true, true, true, true, true, true, true, true, true, true, true, true, true, true, true, true, false] rfl rfl (any_of HT_.out (by kernel_rfl)) (fun _ _ _ h => h) (Or.inl ⟨by rfl, ?_⟩) ?_ ?_
      rotate_left
      · intro w'
        go_simp
        with_reducible rfl
      rotate_left
      · simp only [Act.put, List.setIfInBounds_toArray, List.set_cons_zero, List.set_cons_succ, i64_w, i32_w]
        rfl
      refine pure_ (i := 21) (N := some 6) (v := ?_) (a' := ?_) #[true, true, true, true, true, true, true, true, true, true, true, true, true, true, true, true, true, true, true, true, true, true] rfl rfl (any_of HT_.out (by kernel_rfl)) (fun _ _ _ h => h) (Or.inl ⟨by rfl, ?_⟩) ?_ ?_
      rotate_left
      · intro w'
        go_simp
        with_reducible rfl
      rotate_left
      · simp only [Act.put, List.setIfInBounds_toArray, List.set_cons_zero, List.set_cons_succ, i64_w, i32_w]
        rfl
      refine done_ (done_of HT_.out (by kernel_rfl)) ?_
      try go_wp2
      go_ret
      exact ⟨by simp, HB.out⟩
    · refine goes_ Try.func19 (by kernel_rfl) rfl #[.slice A0 l0.length c0, .int .i64 a1] (by rfl) rfl rfl (by (try simp only [List.map_toArray, List.map_cons, List.map_nil]); first | done | rfl | (simp only [List.length_drop, List.length_take]; rfl)) ?_
      with_reducible refine (prebendref03_Int.calls 9 A0 c0 l0 a1 t2 _ (Kd.C_below HR0.out HB.out) HC0.out HREF.out).mono ?_
      rintro e wqb ⟨v8, rfl, hr, hb⟩; obtain ⟨A8, c8, e8, hc8, hC8⟩ := Kd.R_reads hr; subst e8; have HC8 := Aside0.mk hC8; have n7_ := Aside0.mk (Kd.V_below HV7.out hb); clear HV7; have HV7 := n7_; clear n7_ hr hc8 hC8; have n_ := Aside0.mk (below_step HB.out hb); clear HB; have HB := n_; clear n_ hb
      refine ⟨_, rfl, ?_⟩
      refine hK.out _ _ trivial (fun hHeld => ?_)
      clear hK K
      refine norm_ (a' := ?_) ?_ ?_
      rotate_left
      · show Act.put _ (some 35) _ = _
        simp only [Act.put, List.setIfInBounds_toArray, List.set_cons_zero, List.set_cons_succ, i64_w, i32_w]
        rfl
      refine two_ (i := 14) (j := 18) (Ni := some 32) (Nj := some 36) #[true, true, true, true, true, true, true, true, true, true, true, true, true, true, true, true, true, true, false, false, false, false] #[true, true, true, true, true, true, true, true, true, true, true, true, true, true, false, true, true, true, true, false, false, false] rfl rfl rfl rfl (two_of HT_.out (by kernel_rfl)) (by decide) (by decide) (fun K hK => ?_) (fun K hK => ?_)
      · have hcv14 := conv_C c7 (Kd.V_reads' HV7.out).2.2
        refine value_ (v := .string (strOfNums t2)) (w1 := ?_) (by rfl) rfl ?_ ?_
        rotate_left
        · go_simp
          rfl
        refine hK.out _ _ trivial (fun hHeld => ?_)
        clear hK K
        refine norm_ (a' := ?_) ?_ ?_
        rotate_left
        · show Act.put _ (some 32) _ = _
          simp only [Act.put, List.setIfInBounds_toArray, List.set_cons_zero, List.set_cons_succ, i64_w, i32_w]
          rfl
        refine one_ (i := 18) (N := some 36) #[true, true, true, true, true, true, true, true, true, true, true, true, true, true, true, true, true, true, true, false, false, false] rfl rfl (one_of HT_.out (by kernel_rfl)) (by decide) (fun K hK => ?_)
        have hcv18 := conv_C c8 HC8.out
        refine value_ (v := .string (strOfNums t2)) (w1 := ?_) (by rfl) rfl ?_ ?_
        rotate_left
        · go_simp
          rfl
        refine hK.out _ _ trivial (fun hHeld => ?_)
        clear hK K
        refine norm_ (a' := ?_) ?_ ?_
        rotate_left
        · show Act.put _ (some 36) _ = _
          simp only [Act.put, List.setIfInBounds_toArray, List.set_cons_zero, List.set_cons_succ, i64_w, i32_w]
          rfl
        refine pure_ (i := 19) (N := some 37) (v := ?_) (a' := ?_) #[true, true, true, true, true, true, true, true, true, true, true, true, true, true, true, true, true, true, true, true, false, false] rfl rfl (any_of HT_.out (by kernel_rfl)) (fun _ _ _ h => h) (Or.inl ⟨by rfl, ?_⟩) ?_ ?_
        rotate_left
        · intro w'
          go_simp
          with_reducible rfl
        rotate_left
        · simp only [Act.put, List.setIfInBounds_toArray, List.set_cons_zero, List.set_cons_succ, i64_w, i32_w]
          rfl
        refine pure_ (i := 20) (N := some 38) (v := ?_) (a' := ?_) #[true, true, true, true, true, true, true, true, true, true, true, true, true, true, true, true, true, true, true, true, true, false] rfl rfl (any_of HT_.out (by kernel_rfl)) (fun _ _ _ h => h) (Or.inl ⟨by rfl, ?_⟩) ?_ ?_
        rotate_left
        · intro w'
          go_simp
          with_reducible rfl
        rotate_left
        · simp only [Act.put, List.setIfInBounds_toArray, List.set_cons_zero, List.set_cons_succ, i64_w, i32_w]
          rfl
        refine pure_ (i := 21) (N := some 6) (v := ?_) (a' := ?_) #[true, true, true, true, true, true, true, true, true, true, true, true, true, true, true, true, true, true, true, true, true, true] rfl rfl (any_of HT_.out (by kernel_rfl)) (fun _ _ _ h => h) (Or.inl ⟨by rfl, ?_⟩) ?_ ?_
        rotate_left
        · intro w'
          go_simp
          with_reducible rfl
        rotate_left
        · simp only [Act.put, List.setIfInBounds_toArray, List.set_cons_zero, List.set_cons_succ, i64_w, i32_w]
          rfl
        refine done_ (done_of HT_.out (by kernel_rfl)) ?_
        try go_wp2
        go_ret
        exact ⟨by simp, HB.out⟩
      · have hcv18 := conv_C c8 HC8.out
        refine value_ (v := .string (strOfNums t2)) (w1 := ?_) (by rfl) rfl ?_ ?_
        rotate_left
        · go_simp
          rfl
        refine hK.out _ _ trivial (fun hHeld => ?_)
        clear hK K
        refine norm_ (a' := ?_) ?_ ?_
        rotate_left
        · show Act.put _ (some 36) _ = _
          simp only [Act.put, List.setIfInBounds_toArray, List.set_cons_zero, List.set_cons_succ, i64_w, i32_w]
          rfl
        refine one_ (i := 14) (N := some 32) #[true, true, true, true, true, true, true, true, true, true, true, true, true, true, true, true, true, true, true, false, false, false] rfl rfl (one_of HT_.out (by kernel_rfl)) (by decide) (fun K hK => ?_)
        have hcv14 := conv_C c7 (Kd.V_reads' HV7.out).2.2
        refine value_ (v := .string (strOfNums t2)) (w1 := ?_) (by rfl) rfl ?_ ?_
        rotate_left
        · go_simp
          rfl
        refine hK.out _ _ trivial (fun hHeld => ?_)
        clear hK K
        refine norm_ (a' := ?_) ?_ ?_
        rotate_left
        · show Act.put _ (some 32) _ = _
          simp only [Act.put, List.setIfInBounds_toArray, List.set_cons_zero, List.set_cons_succ, i64_w, i32_w]
          rfl
        refine pure_ (i := 19) (N := some 37) (v := ?_) (a' := ?_) #[true, true, true, true, true, true, true, true, true, true, true, true, true, true, true, true, true, true, true, true, false, false] rfl rfl (any_of HT_.out (by kernel_rfl)) (fun _ _ _ h => h) (Or.inl ⟨by rfl, ?_⟩) ?_ ?_
        rotate_left
        · intro w'
          go_simp
          with_reducible rfl
        rotate_left
        · simp only [Act.put, List.setIfInBounds_toArray, List.set_cons_zero, List.set_cons_succ, i64_w, i32_w]
          rfl
        refine pure_ (i := 20) (N := some 38) (v := ?_) (a' := ?_) #[true, true, true, true, true, true, true, true, true, true, true, true, true, true, true, true, true, true, true, true, true, false] rfl rfl (any_of HT_.out (by kernel_rfl)) (fun _ _ _ h => h) (Or.inl ⟨by rfl, ?_⟩) ?_ ?_
        rotate_left
        · intro w'
          go_simp
          with_reducible rfl
        rotate_left
        · simp only [Act.put, List.setIfInBounds_toArray, List.set_cons_zero, List.set_cons_succ, i64_w, i32_w]
          rfl
        refine pure_ (i := 21) (N := some 6) (v := ?_) (a' := ?_) #[true, true, true, true, true, true, true, true, true, true, true, true, true, true, true, true, true, true, true, true, true, true] rfl rfl (any_of HT_.out (by kernel_rfl)) (fun _ _ _ h => h) (Or.inl ⟨by rfl, ?_⟩) ?_ ?_
        rotate_left
        · intro w'
          go_simp
          with_reducible rfl
        rotate_left
        · simp only [Act.put, List.setIfInBounds_toArray, List.set_cons_zero, List.set_cons_succ, i64_w, i32_w]
          rfl
        refine done_ (done_of HT_.out (by kernel_rfl)) ?_
        try go_wp2
        go_ret
        exact ⟨by simp, HB.out⟩
end Go.Proofs.Ytjmkpcnekghmhaa.PAll
end
