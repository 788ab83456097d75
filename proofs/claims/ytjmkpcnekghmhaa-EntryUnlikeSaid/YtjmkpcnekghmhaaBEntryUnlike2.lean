/- Words, plain functions and contracts of the functions that the law of this claim reaches; no conditions. -/
import Derived.Test.YtjmkpcnekghmhaaBEntryUnlike1
section
namespace Go.Proofs.Ytjmkpcnekghmhaa.PAll
open Go.RowKit Go.Proofs.YtjmkpcnekghmhaaW.PrintWords Go.Proofs.YtjmkpcnekghmhaaW.PrintLast Go.Proofs.YtjmkpcnekghmhaaW.PrintMore
attribute [local go_sem] max2_int min2_int max_two min_two max_three min_three max_four min_four   -- for this text's walks alone
set_option linter.unusedVariables false
set_option linter.unusedSimpArgs false

/-! ### octet_New: function 21 -/
/-! ### A reader: where it lies, the bytes that it still has, whether something was wrong -/
theorem C_same {α : Type} {enc : α → Value} {h1 : ∀ x, (enc x).oneCell' = true} {w w1 : World} {A : Option Addr} {n : Nat} {xs : List α} (h : (Kd.scalar enc h1).C w A n xs) (hm : ∀ ad, A = some ad → w1.heap[ad.block]? = w.heap[ad.block]?) : (Kd.scalar enc h1).C w1 A n xs := by
  obtain ⟨h2, h3, h4⟩ := h
  refine ⟨h2, h3, fun hp => ?_⟩
  obtain ⟨ad, rfl, hr⟩ := h4 hp
  refine ⟨ad, rfl, fun j p hj => ?_⟩
  obtain ⟨c, hc1, hc2, hc3⟩ := hr j p hj
  refine ⟨c, hc1, hc2, fun i u hu => ?_⟩
  rw [World.cell?_of_block (w := w) (by rw [add_block]; exact hm ad rfl)]
  exact hc3 i u hu
structure Rdr (base p : Nat) (xs : List Int) (bad : Bool) (W : World) : Prop where
  ex : ∃ A c, W.heap[p]? = some (.cells #[.slice A xs.length c, .bool bad] 82 (0, 0)) ∧ xs.length ≤ c ∧ c ≤ 9223372036854775807 ∧ Kd.C (Kd.int .u8) W A xs.length xs ∧ ∀ ad, A = some ad → base ≤ ad.block ∧ ad.block < p
  by_ : ∀ x ∈ xs, 0 ≤ x ∧ x ≤ 255
theorem Rdr.step {base p : Nat} {xs : List Int} {bad : Bool} {W W1 : World} (h : Rdr base p xs bad W) (hm : ∀ k, k < W.heap.size → base ≤ k → W1.heap[k]? = W.heap[k]?) (hb : base ≤ p) : Rdr base p xs bad W1 := by
  obtain ⟨A, c, h1, h2, h3, h4, h5⟩ := h.ex
  have hp := blk_lt h1
  exact ⟨⟨A, c, (hm p hp hb).trans h1, h2, h3, C_same h4 (fun ad ha => hm _ (by have := (h5 ad ha).2; omega) (h5 ad ha).1), h5⟩, h.by_⟩
theorem Rdr.below {base p : Nat} {xs : List Int} {bad : Bool} {W W1 : World} (h : Rdr base p xs bad W) (hb : Below W.heap.size W W1) : Rdr base p xs bad W1 := by
  obtain ⟨A, c, h1, h2, h3, h4, h5⟩ := h.ex
  exact ⟨⟨A, c, blk_below h1 hb, h2, h3, Kd.C_below h4 hb, h5⟩, h.by_⟩
/-- The reader's own store: nothing else is touched. -/
def PutAt (p : Nat) (W W1 : World) : Prop := ∃ (j : Nat) (v : Value), W1 = W.setCell ⟨p, j, none⟩ v
/-- By how many of the reader's stores (and draws). -/
def Puts (p : Nat) (W W1 : World) : Prop := ∀ B, B ≤ p → (∀ w0 : World, Below B w0 W → Below B w0 W1) ∧ W1.heap.size = W.heap.size ∧ ∀ k, k ≠ p → W1.heap[k]? = W.heap[k]?
theorem Puts.refl (p : Nat) (W : World) : Puts p W W := fun B hB => ⟨fun _ h => h, rfl, fun _ _ => rfl⟩
theorem Puts.set {p : Nat} {W W1 : World} (h : Puts p W W1) (j : Nat) (v : Value) : Puts p W (W1.setCell ⟨p, j, none⟩ v) := fun B hB => by
  obtain ⟨h1, h2, h3⟩ := h B hB
  exact ⟨fun w0 hw => (h1 w0 hw).setCell hB _, by simpa using h2, fun k hk => (Below.heap_setCell _ _ v k hk).trans (h3 k hk)⟩
theorem Puts.trans {p : Nat} {W W1 W2 : World} (h : Puts p W W1) (k : Puts p W1 W2) : Puts p W W2 := fun B hB => by
  obtain ⟨h1, h2, h3⟩ := h B hB
  obtain ⟨k1, k2, k3⟩ := k B hB
  exact ⟨fun w0 hw => k1 w0 (h1 w0 hw), k2.trans h2, fun q hq => (k3 q hq).trans (h3 q hq)⟩
theorem Puts.below {p : Nat} {w0 W W1 : World} (h : Puts p W W1) (hp : w0.heap.size ≤ p) (hb : Below w0.heap.size w0 W) : Below w0.heap.size w0 W1 := (h _ hp).1 w0 hb
set_option maxHeartbeats 4000000 in
theorem take_nil (n : Int) (W : World) : Calls Try.prog 43 #[.pointer none, .int .i64 n] W fun e W' => e = .returned (.slice none 0 0) ∧ W' = W := by
  go_enter Try.func43, Try.ntmps43
  go_wp2
  go_ret
  exact ⟨rfl, rfl⟩
set_option maxHeartbeats 4000000 in
theorem take_bad {base p : Nat} {xs : List Int} (n : Int) (W : World) (h : Rdr base p xs true W) : Calls Try.prog 43 #[.pointer (some ⟨p, 0, none⟩), .int .i64 n] W fun e W' => e = .returned (.slice none 0 0) ∧ Rdr base p xs true W' ∧ Puts p W W' := by
  have HH := Aside0.mk h
  obtain ⟨A, c, h1, h2, h3, h4, h5⟩ := h.ex
  have hb1 : W.cell? ⟨p, 1, none⟩ = some (.bool true) := (blk_cell h1 1).trans rfl
  have hf1 := blk_frozen h1 1
  have B1 := Aside0.mk h1
  have B2 := Aside0.mk h2
  have B3 := Aside0.mk h3
  have B4 := Aside0.mk h4
  have B5 := Aside0.mk h5
  clear h h1 h2 h3 h4 h5
  go_enter Try.func43, Try.ntmps43
  go_wp2
  go_ret
  exact ⟨rfl, ⟨⟨A, c, blk_put B1.out 1 _ rfl, B2.out, B3.out, C_same B4.out (fun ad ha => Below.heap_setCell _ _ _ _ (by have := (B5.out ad ha).2; show ad.block ≠ p; omega)), B5.out⟩, HH.out.by_⟩, Puts.set (Puts.refl _ _) 1 _⟩
set_option maxHeartbeats 4000000 in
theorem take_over {base p : Nat} {xs : List Int} (n : Int) (W : World) (h : Rdr base p xs false W) (hn : (xs.length : Int) < n) : Calls Try.prog 43 #[.pointer (some ⟨p, 0, none⟩), .int .i64 n] W fun e W' => e = .returned (.slice none 0 0) ∧ Rdr base p xs true W' ∧ Puts p W W' := by
  have HH := Aside0.mk h
  obtain ⟨A, c, h1, h2, h3, h4, h5⟩ := h.ex
  have hb0 : W.cell? ⟨p, 0, none⟩ = some (.slice A xs.length c) := (blk_cell h1 0).trans rfl
  have hb1 : W.cell? ⟨p, 1, none⟩ = some (.bool false) := (blk_cell h1 1).trans rfl
  have hf1 := blk_frozen h1 1
  have d1 : decide ((xs.length : Int) < n) = true := decide_eq_true hn
  have B1 := Aside0.mk h1
  have B2 := Aside0.mk h2
  have B3 := Aside0.mk h3
  have B4 := Aside0.mk h4
  have B5 := Aside0.mk h5
  clear h h1 h2 h3 h4 h5 hn
  go_enter Try.func43, Try.ntmps43
  go_wp2
  go_ret
  exact ⟨rfl, ⟨⟨A, c, blk_put B1.out 1 _ rfl, B2.out, B3.out, C_same B4.out (fun ad ha => Below.heap_setCell _ _ _ _ (by have := (B5.out ad ha).2; show ad.block ≠ p; omega)), B5.out⟩, HH.out.by_⟩, Puts.set (Puts.refl _ _) 1 _⟩
set_option maxHeartbeats 4000000 in
theorem take_ok {base p : Nat} {xs : List Int} (n : Nat) (W : World) (h : Rdr base p xs false W) (hn : n ≤ xs.length) : Calls Try.prog 43 #[.pointer (some ⟨p, 0, none⟩), .int .i64 n] W fun e W' => ∃ A c, e = .returned (.slice A n c) ∧ n ≤ c ∧ Kd.C (Kd.int .u8) W' A n (xs.take n) ∧ Rdr base p (xs.drop n) false W' ∧ Puts p W W' := by
  have HH := Aside0.mk h
  obtain ⟨A, c, h1, h2, h3, h4, h5⟩ := h.ex
  have hb0 : W.cell? ⟨p, 0, none⟩ = some (.slice A xs.length c) := (blk_cell h1 0).trans rfl
  have hb1 : W.cell? ⟨p, 1, none⟩ = some (.bool false) := (blk_cell h1 1).trans rfl
  have hf0 := blk_frozen h1 0
  have d1 : decide ((xs.length : Int) < (n : Int)) = false := decide_eq_false (by omega)
  have d2 : decide (xs.length < n) = false := decide_eq_false (by omega)
  obtain ⟨i0, hi0, _, hsz0, _⟩ := info_parts info5
  have hcut1 := cut_to (P := Try.prog) 22 5 .i64 Try.underlying22 hi0 A xs.length c (n : Int) (by omega) (by omega) h2
  have hcut2 := cut_from (P := Try.prog) 22 5 .i64 Try.underlying22 hi0 1 hsz0 A xs.length c (n : Int) (by omega) (by omega)
  rw [show ((n : Int)).toNat = n by omega] at hcut1 hcut2
  have B4 := Aside0.mk (show (Kd.int .u8).C W A n (xs.take n) from by have := Kd.C_take h4 hn; rwa [List.length_take, Nat.min_eq_left hn] at this)
  have B6 := Aside0.mk (Kd.C_drop h4 hn h2)
  have B7 : Aside0 (∀ ad, (if c = n then A else A.map (·.add (n * 1))) = some ad → base ≤ ad.block ∧ ad.block < p) := ⟨by
    intro ad ha
    by_cases hc : c = n
    · rw [if_pos hc] at ha; exact h5 ad ha
    · rw [if_neg hc] at ha
      cases hA : A with
      | none => rw [hA] at ha; cases ha
      | some a0 =>
        rw [hA] at ha
        obtain rfl : a0.add (n * 1) = ad := by simpa using ha
        rw [add_block]
        exact h5 a0 hA⟩
  change Aside0 ((Kd.int .u8).C W (if c = n then A else A.map (·.add (n * 1))) (xs.drop n).length (xs.drop n)) at B6
  obtain ⟨A2, hA2⟩ : ∃ A2, (if c = n then A else A.map (·.add (n * 1))) = A2 := ⟨_, rfl⟩
  rw [hA2] at hcut2 B6 B7
  have B1 := Aside0.mk h1
  have B2 := Aside0.mk h2
  have B3 := Aside0.mk h3
  have B5 := Aside0.mk h5
  have HN := Aside0.mk hn
  clear h h1 h2 h3 h4 h5 hi0 hsz0 hn hA2
  go_enter Try.func43, Try.ntmps43
  go_wp2
  go_ret
  refine ⟨A, c, rfl, by have := HN.out; have := B2.out; omega, C_same B4.out (fun ad ha => Below.heap_setCell _ _ _ _ (by have := (B5.out ad ha).2; show ad.block ≠ p; omega)), ⟨⟨A2, c - n, ?_, by have := B2.out; simp; omega, by have := B3.out; omega, C_same B6.out (fun ad ha => Below.heap_setCell _ _ _ _ (by have := (B7.out ad ha).2; show ad.block ≠ p; omega)), B7.out⟩, fun x hx => HH.out.by_ x (List.mem_of_mem_drop hx)⟩, Puts.set (Puts.refl _ _) 0 _⟩
  rw [List.length_drop]
  exact blk_put B1.out 0 _ rfl
/-- A number out of bytes. -/
def numS : List Int → Int → Int
  | [], n => n
  | c :: r, n => numS r (Go.bits .or .i64 (wrap64 (n * 256)) c)
set_option maxHeartbeats 4000000 in
theorem number_nil (m : Int) (W : World) : Calls Try.prog 42 #[.pointer none, .int .i64 m] W fun e W' => e = .returned (.int .i64 0) ∧ W' = W := by
  go_enter Try.func42, Try.ntmps42
  go_wp2_with (go_at_call 43; (with_reducible refine (take_nil _ _).mono ?_); rintro e w1 ⟨rfl, rfl⟩)
  go_loop [5, 12] (fun n i => n = .int .i64 0 ∧ i = .int .i64 0) (fun _ _ => 0)
  case atStart => exact ⟨rfl, rfl⟩
  case round =>
    obtain ⟨rfl, rfl⟩ := hrel
    go_wp2
    go_ret
    exact ⟨rfl, rfl⟩
set_option maxHeartbeats 4000000 in
theorem number_bad {base p : Nat} {xs : List Int} (bad : Bool) (m : Nat) (W : World) (h : Rdr base p xs bad W) (hm : bad = true ∨ xs.length < m) : Calls Try.prog 42 #[.pointer (some ⟨p, 0, none⟩), .int .i64 (m : Int)] W fun e W' => e = .returned (.int .i64 0) ∧ Rdr base p xs true W' ∧ Puts p W W' := by
  have key : Calls Try.prog 43 #[.pointer (some ⟨p, 0, none⟩), .int .i64 (m : Int)] W fun e W' => e = .returned (.slice none 0 0) ∧ Rdr base p xs true W' ∧ Puts p W W' := by
    cases bad with
    | true => exact take_bad _ W h
    | false => exact take_over _ W h (by rcases hm with h | h; cases h; omega)
  clear h hm
  go_enter Try.func42, Try.ntmps42
  go_wp2_with (go_at_call 43; (with_reducible refine key.mono ?_); rintro e w1 ⟨rfl, hr, hp⟩)
  go_loop [5, 12] (fun n i => n = .int .i64 0 ∧ i = .int .i64 0) (fun _ _ => 0)
  case atStart => exact ⟨rfl, rfl⟩
  case round =>
    obtain ⟨rfl, rfl⟩ := hrel
    go_wp2
    go_ret
    exact ⟨rfl, hr, hp⟩
set_option maxHeartbeats 4000000 in
theorem number_ok {base p : Nat} {xs : List Int} (m : Nat) (W : World) (h : Rdr base p xs false W) (hm : m ≤ xs.length) : Calls Try.prog 42 #[.pointer (some ⟨p, 0, none⟩), .int .i64 (m : Int)] W fun e W' => e = .returned (.int .i64 (numS (xs.take m) 0)) ∧ Rdr base p (xs.drop m) false W' ∧ Puts p W W' := by
  obtain ⟨ys, hys⟩ : ∃ ys, xs.take m = ys := ⟨_, rfl⟩
  have hyl : ys.length = m := by rw [← hys, List.length_take]; omega
  have hby : Aside0 (∀ y ∈ ys, 0 ≤ y ∧ y ≤ 255) := ⟨fun y hy => h.by_ y (List.mem_of_mem_take (hys ▸ hy))⟩
  have key := take_ok m W h hm
  rw [hys] at key ⊢
  subst hyl
  clear h hm hys
  go_enter Try.func42, Try.ntmps42
  go_wp2_with (go_at_call 43; (with_reducible refine key.mono ?_); rintro e w1 ⟨A, c, rfl, hc, hC, hr, hp⟩; have HC := Aside0.mk hC; have HR := Aside0.mk hr; have HP := Aside0.mk hp; have HCC := Aside0.mk hc; clear hC hr hp hc)
  go_loop [5, 12] (fun n i => ∃ (k : Nat) (a : Int), k ≤ ys.length ∧ i = .int .i64 (k : Int) ∧ n = .int .i64 a ∧ Aside0 (numS (ys.drop k) a = numS ys 0)) (fun _ i => ys.length - (intOf i).toNat)
  case atStart => exact ⟨0, 0, Nat.zero_le _, rfl, rfl, ⟨rfl⟩⟩
  case round =>
    obtain ⟨k, a, hk, rfl, rfl, ha⟩ := hrel
    by_cases hlt : k < ys.length
    · obtain ⟨ad, ead, hx⟩ := Kd.at_int HC.out (k : Int) (by omega) (by omega)
      cases ead
      rw [show ((k : Int)).toNat = k by omega] at hx
      have hb := hby.out (rd ys (k : Int)) (by simp [rd, List.getD_eq_getElem?_getD, hlt])
      have q3 : (k < ys.length) = True := eq_true hlt
      have q4 : wrap64 ((k : Int) + 1) = ((k + 1 : Nat) : Int) := by have := HC.out.2.1; unfold wrap64; omega
      have hstep : numS (ys.drop (k + 1)) (bits .or .i64 (wrap64 (a * 256)) (rd ys (k : Int))) = numS ys 0 := by
        rw [← ha.out, List.drop_eq_getElem_cons hlt]
        simp [numS, rd, List.getD_eq_getElem?_getD, hlt]
      have HS := Aside0.mk hstep
      clear hstep ha
      go_wp2
      go_round
      case rel => exact ⟨k + 1, _, by omega, by rw [q4], rfl, HS⟩
      case measure => rw [q4]; simp [intOf]; omega
    · obtain rfl : k = ys.length := by omega
      have ha2 : a = numS ys 0 := by have := ha.out; rwa [List.drop_length] at this
      subst ha2
      clear ha
      go_wp2
      go_ret
      exact ⟨rfl, HR.out, HP.out⟩
theorem or_byte (a c : Int) (h0 : 0 ≤ c) (h1 : c < 256) : bits .or .i64 (wrap64 (a * 256)) c = wrap64 (a * 256 + c) := by
  obtain ⟨m, rfl⟩ : ∃ m : Nat, c = (m : Int) := ⟨c.toNat, by omega⟩
  have hm : m < 2 ^ 8 := by omega
  obtain ⟨q, hq⟩ : ∃ q : Nat, (BitVec.ofInt 64 (wrap64 (a * 256))).toNat = 2 ^ 8 * q := by
    rw [BitVec.toNat_ofInt]
    refine ⟨((wrap64 (a * 256)) % 18446744073709551616 / 256).toNat, ?_⟩
    unfold wrap64
    omega
  have hq2 : ((2 ^ 8 * q : Nat) : Int) % 18446744073709551616 = (a * 256) % 18446744073709551616 := by
    rw [← hq, BitVec.toNat_ofInt]
    unfold wrap64
    omega
  have hw : ∀ x : Int, IntKind.i64.wrap x = wrap64 x := fun x => by rw [IntKind.wrap_i64]; unfold wrap64; rfl
  show IntKind.i64.wrap (((BitVec.ofInt 64 (wrap64 (a * 256)) ||| BitVec.ofInt 64 (m : Int)).toNat : Nat) : Int) = _
  rw [BitVec.toNat_or, hq, BitVec.ofInt_natCast, BitVec.toNat_ofNat, Nat.mod_eq_of_lt (show m < 2 ^ 64 by omega), ← Nat.two_pow_add_eq_or_of_lt hm, hw]
  unfold wrap64
  omega
theorem numS_two (x y : Int) (hx : 0 ≤ x ∧ x ≤ 255) (hy : 0 ≤ y ∧ y ≤ 255) : numS [x, y] 0 = x * 256 + y := by
  simp only [numS]
  rw [or_byte 0 x hx.1 (by omega), or_byte _ y hy.1 (by omega)]
  unfold wrap64
  omega
theorem take_two {xs : List Int} (h : 2 ≤ xs.length) : xs.take 2 = [xs.getD 0 0, xs.getD 1 0] := by
  match xs, h with
  | a :: b :: r, _ => rfl
theorem numS_bd {xs : List Int} (h : 2 ≤ xs.length) (hb : ∀ x ∈ xs, 0 ≤ x ∧ x ≤ 255) : 0 ≤ numS (xs.take 2) 0 ∧ numS (xs.take 2) 0 ≤ 65535 := by
  rw [take_two h]
  match xs, h with
  | a :: b :: r, _ =>
    have ha := hb a (by simp)
    have hb' := hb b (by simp)
    show 0 ≤ numS [a, b] 0 ∧ numS [a, b] 0 ≤ 65535
    rw [numS_two a b ha hb']
    omega
/-- What the reader answers, by what it has. -/
def rInt (s : List Int × Bool) : Int × (List Int × Bool) := if s.2 = true ∨ s.1.length < 8 then (0, (s.1, true)) else (numS (s.1.take 8) 0, (s.1.drop 8, false))
def rText (s : List Int × Bool) (m : Int) : List Int × (List Int × Bool) := if s.2 = true ∨ s.1.length < 2 then ([], (s.1, true)) else (if numS (s.1.take 2) 0 > m ∨ ((s.1.length - 2 : Nat) : Int) < numS (s.1.take 2) 0 then ([], (s.1.drop 2, true)) else ((s.1.drop 2).take (numS (s.1.take 2) 0).toNat, ((s.1.drop 2).drop (numS (s.1.take 2) 0).toNat, false)))
def rEnd (s : List Int × Bool) : Bool := !s.2 && s.1.length == 0
set_option maxHeartbeats 4000000 in
theorem int_nil (W : World) : Calls Try.prog 25 #[.pointer none] W fun e W' => e = .returned (.int .i64 0) ∧ W' = W := by
  go_enter Try.func25, Try.ntmps25
  go_wp2_with (go_at_call 42; (with_reducible refine (number_nil _ _).mono ?_); rintro e w1 ⟨rfl, rfl⟩)
  go_ret
  exact ⟨rfl, rfl⟩
set_option maxHeartbeats 4000000 in
theorem int_f {base p : Nat} (s : List Int × Bool) (W : World) (h : Rdr base p s.1 s.2 W) : Calls Try.prog 25 #[.pointer (some ⟨p, 0, none⟩)] W fun e W' => e = .returned (.int .i64 (rInt s).1) ∧ Rdr base p (rInt s).2.1 (rInt s).2.2 W' ∧ Puts p W W' := by
  obtain ⟨xs, bad⟩ := s
  have key : Calls Try.prog 42 #[.pointer (some ⟨p, 0, none⟩), .int .i64 8] W fun e W' => e = .returned (.int .i64 (rInt (xs, bad)).1) ∧ Rdr base p (rInt (xs, bad)).2.1 (rInt (xs, bad)).2.2 W' ∧ Puts p W W' := by
    unfold rInt
    by_cases c : bad = true ∨ xs.length < 8
    · rw [if_pos c]; exact number_bad bad 8 W h c
    · rw [if_neg c]
      obtain rfl : bad = false := by simpa using (not_or.1 c).1
      exact number_ok 8 W h (by have c2 := (not_or.1 c).2; simp at c2; omega)
  obtain ⟨n, hn⟩ : ∃ n, n = (rInt (xs, bad)).1 := ⟨_, rfl⟩
  obtain ⟨t, ht⟩ : ∃ t, t = (rInt (xs, bad)).2 := ⟨_, rfl⟩
  rw [← hn, ← ht] at key ⊢
  clear h hn ht
  go_enter Try.func25, Try.ntmps25
  go_wp2_with (go_at_call 42; (with_reducible refine key.mono ?_); rintro e w1 ⟨rfl, hr, hp⟩)
  go_ret
  exact ⟨rfl, hr, hp⟩
set_option maxHeartbeats 4000000 in
theorem end_nil (W : World) : Calls Try.prog 26 #[.pointer none] W fun e W' => e = .returned (.bool false) ∧ W' = W := by
  go_enter Try.func26, Try.ntmps26
  go_wp2
  go_ret
  exact ⟨rfl, rfl⟩
set_option maxHeartbeats 4000000 in
theorem end_f {base p : Nat} (s : List Int × Bool) (W : World) (h : Rdr base p s.1 s.2 W) : Calls Try.prog 26 #[.pointer (some ⟨p, 0, none⟩)] W fun e W' => e = .returned (.bool (rEnd s)) ∧ W' = W := by
  obtain ⟨xs, bad⟩ := s
  obtain ⟨A, c, h1, h2, h3, h4, h5⟩ := h.ex
  have hb0 : W.cell? ⟨p, 0, none⟩ = some (.slice A xs.length c) := (blk_cell h1 0).trans rfl
  have hb1 : W.cell? ⟨p, 1, none⟩ = some (.bool bad) := (blk_cell h1 1).trans rfl
  clear h h1 h2 h3 h4 h5
  cases bad with
  | true =>
    go_enter Try.func26, Try.ntmps26
    go_wp2
    go_ret
    exact ⟨rfl, rfl⟩
  | false =>
    by_cases hx : xs.length = 0
    · have d1 : ((xs.length : Int) == 0) = true := by simp [hx]
      have e1 : rEnd (xs, false) = true := by simp [rEnd, hx]
      rw [e1]
      have H := Aside0.mk d1
      clear e1 d1
      rw [hx] at hb0
      clear hx
      go_enter Try.func26, Try.ntmps26
      go_wp2
      go_ret
      exact ⟨rfl, rfl⟩
    · have d1 : ((xs.length : Int) == 0) = false := beq_eq_false_iff_ne.mpr (by omega)
      have d2 : (xs.length == 0) = false := beq_eq_false_iff_ne.mpr hx
      have d3 : ¬ xs = [] := fun e => hx (by rw [e]; rfl)
      have e1 : rEnd (xs, false) = false := by simp [rEnd, d3]
      rw [e1]
      clear e1 hx
      go_enter Try.func26, Try.ntmps26
      go_wp2
      go_ret
      exact ⟨rfl, rfl⟩
set_option maxHeartbeats 4000000 in
theorem text_nil (m : Int) (W : World) : Calls Try.prog 23 #[.pointer none, .int .i64 m] W fun e W' => e = .returned (.string (strOfNums [])) ∧ W' = W := by
  have hcv := Kd.C_string (P := Try.prog) (w := W) (A := none) (n := 0) (c := 0) Try.underlying22 Try.underlying5 Try.underlying9 (xs := []) ⟨rfl, by omega, fun h => absurd h (by omega)⟩
  by_cases c : (0 : Int) > m
  · have c1 : decide (m < 0) = true := decide_eq_true c
    clear c
    go_enter Try.func23, Try.ntmps23
    go_wp2_with (first | (go_at_call 42; (with_reducible refine (number_nil _ _).mono ?_); rintro e w1 ⟨rfl, rfl⟩) | (go_at_call 43; (with_reducible refine (take_nil _ _).mono ?_); rintro e w1 ⟨rfl, rfl⟩))
    go_ret
    exact ⟨rfl, rfl⟩
  · have c1 : decide (m < 0) = false := decide_eq_false c
    clear c
    go_enter Try.func23, Try.ntmps23
    go_wp2_with (first | (go_at_call 42; (with_reducible refine (number_nil _ _).mono ?_); rintro e w1 ⟨rfl, rfl⟩) | (go_at_call 43; (with_reducible refine (take_nil _ _).mono ?_); rintro e w1 ⟨rfl, rfl⟩))
    go_ret
    exact ⟨rfl, rfl⟩
theorem Rdr.setBad {base p : Nat} {xs : List Int} {b : Bool} {W : World} (h : Rdr base p xs b W) : Rdr base p xs true (W.setCell ⟨p, 1, none⟩ (.bool true)) := by
  obtain ⟨A, c, h1, h2, h3, h4, h5⟩ := h.ex
  exact ⟨⟨A, c, blk_put h1 1 _ rfl, h2, h3, C_same h4 (fun ad ha => Below.heap_setCell _ _ _ _ (by have := (h5 ad ha).2; show ad.block ≠ p; omega)), h5⟩, h.by_⟩
theorem Rdr.flag {base p : Nat} {xs : List Int} {b : Bool} {W : World} (h : Rdr base p xs b W) : W.cell? ⟨p, 1, none⟩ = some (.bool b) ∧ W.frozen? ⟨p, 1, none⟩ = false := by
  obtain ⟨A, c, h1, h2, h3, h4, h5⟩ := h.ex
  exact ⟨(blk_cell h1 1).trans rfl, blk_frozen h1 1⟩
theorem conv_nil (W : World) : (convert 22 9 (.slice none 0 0)).run Try.prog W = .ok (.string (strOfNums [])) W :=
  Kd.C_string (P := Try.prog) (w := W) (A := none) (n := 0) (c := 0) Try.underlying22 Try.underlying5 Try.underlying9 (xs := []) ⟨rfl, by omega, fun h => absurd h (by omega)⟩
set_option maxHeartbeats 8000000 in
theorem text_f {base p : Nat} (s : List Int × Bool) (m : Int) (W : World) (h : Rdr base p s.1 s.2 W) : Calls Try.prog 23 #[.pointer (some ⟨p, 0, none⟩), .int .i64 m] W fun e W' => e = .returned (.string (strOfNums (rText s m).1)) ∧ Rdr base p (rText s m).2.1 (rText s m).2.2 W' ∧ Puts p W W' := by
  obtain ⟨xs, bad⟩ := s
  have hcn := conv_nil
  unfold rText
  by_cases c : bad = true ∨ xs.length < 2
  · rw [if_pos c]
    have key : Calls Try.prog 42 #[.pointer (some ⟨p, 0, none⟩), .int .i64 2] W fun e W' => e = .returned (.int .i64 0) ∧ Rdr base p xs true W' ∧ Puts p W W' := number_bad bad 2 W h c
    clear h c
    by_cases c : (0 : Int) > m
    · have c1 : decide (m < 0) = true := decide_eq_true c
      clear c
      go_enter Try.func23, Try.ntmps23
      go_wp2_with (first | (go_at_call 42; (with_reducible refine key.mono ?_); rintro e w1 ⟨rfl, hr, hp⟩; have HR := Aside0.mk hr.setBad; have HP := Aside0.mk (hp.set 1 (.bool true)); obtain ⟨f1, f2⟩ := hr.flag; clear hr hp) | (go_at_call 43; (with_reducible refine (take_bad _ _ HR.out).mono ?_); rintro e w2 ⟨rfl, hr, hp⟩; have HP2 := Aside0.mk (HP.out.trans hp); clear hp))
      go_ret
      exact ⟨rfl, hr, HP2.out⟩
    · have c1 : decide (m < 0) = false := decide_eq_false c
      clear c
      go_enter Try.func23, Try.ntmps23
      go_wp2_with (first | (go_at_call 42; (with_reducible refine key.mono ?_); rintro e w1 ⟨rfl, hr, hp⟩; have HR := Aside0.mk hr; have HP := Aside0.mk hp; clear hr hp) | (go_at_call 43; (with_reducible refine (take_bad _ _ HR.out).mono ?_); rintro e w2 ⟨rfl, hr, hp⟩; have HP2 := Aside0.mk (HP.out.trans hp); clear hp))
      go_ret
      exact ⟨rfl, hr, HP2.out⟩
  · rw [if_neg c]
    obtain rfl : bad = false := by simpa using (not_or.1 c).1
    have hl : 2 ≤ xs.length := by have c2 := (not_or.1 c).2; simp at c2; omega
    have key : Calls Try.prog 42 #[.pointer (some ⟨p, 0, none⟩), .int .i64 2] W fun e W' => e = .returned (.int .i64 (numS (xs.take 2) 0)) ∧ Rdr base p (xs.drop 2) false W' ∧ Puts p W W' := number_ok 2 W h hl
    have hbd := numS_bd hl h.by_
    dsimp only
    obtain ⟨n, hn⟩ : ∃ n : Nat, numS (xs.take 2) 0 = (n : Int) := ⟨(numS (xs.take 2) 0).toNat, by omega⟩
    obtain ⟨ys, hys⟩ : ∃ ys, xs.drop 2 = ys := ⟨_, rfl⟩
    have hyl : xs.length - 2 = ys.length := by rw [← hys, List.length_drop]
    rw [hn, hys] at key
    rw [hn, hys, hyl, show ((n : Int)).toNat = n by omega]
    clear h c hl hn hys hyl hbd
    by_cases c : (n : Int) > m
    · rw [if_pos (Or.inl c)]
      have c1 : decide (m < (n : Int)) = true := decide_eq_true c
      clear c
      go_enter Try.func23, Try.ntmps23
      go_wp2_with (first | (go_at_call 42; (with_reducible refine key.mono ?_); rintro e w1 ⟨rfl, hr, hp⟩; have HR := Aside0.mk hr.setBad; have HP := Aside0.mk (hp.set 1 (.bool true)); obtain ⟨f1, f2⟩ := hr.flag; clear hr hp) | (go_at_call 43; (with_reducible refine (take_bad _ _ HR.out).mono ?_); rintro e w2 ⟨rfl, hr, hp⟩; have HP2 := Aside0.mk (HP.out.trans hp); clear hp))
      go_ret
      exact ⟨rfl, hr, HP2.out⟩
    · have c1 : decide (m < (n : Int)) = false := decide_eq_false c
      by_cases c2 : (ys.length : Int) < (n : Int)
      · rw [if_pos (Or.inr c2)]
        have C2 := Aside0.mk c2
        clear c c2
        go_enter Try.func23, Try.ntmps23
        go_wp2_with (first | (go_at_call 42; (with_reducible refine key.mono ?_); rintro e w1 ⟨rfl, hr, hp⟩; have HR := Aside0.mk hr; have HP := Aside0.mk hp; clear hr hp) | (go_at_call 43; (with_reducible refine (take_over _ _ HR.out C2.out).mono ?_); rintro e w2 ⟨rfl, hr, hp⟩; have HP2 := Aside0.mk (HP.out.trans hp); clear hp))
        go_ret
        exact ⟨rfl, hr, HP2.out⟩
      · rw [if_neg (not_or.2 ⟨c, c2⟩)]
        have C2 : Aside0 (n ≤ ys.length) := ⟨by omega⟩
        clear c c2
        go_enter Try.func23, Try.ntmps23
        go_wp2_with (first | (go_at_call 42; (with_reducible refine key.mono ?_); rintro e w1 ⟨rfl, hr, hp⟩; have HR := Aside0.mk hr; have HP := Aside0.mk hp; clear hr hp) | (go_at_call 43; (with_reducible refine (take_ok _ _ HR.out C2.out).mono ?_); rintro e w2 ⟨A, c, rfl, hc, hC, hr, hp⟩; have HP2 := Aside0.mk (HP.out.trans hp); have HR2 := Aside0.mk hr; have hcv := Kd.C_string (P := Try.prog) (A := A) (c := c) Try.underlying22 Try.underlying5 Try.underlying9 hC; clear hp hr hc hC))
        go_ret
        exact ⟨rfl, HR2.out, HP2.out⟩
set_option maxHeartbeats 4000000 in
theorem new_f (A : Option Addr) (c : Nat) (l : List Int) (w : World) (hC : Kd.C (Kd.int .u8) w A l.length l) (hc : l.length ≤ c) (hb : ∀ x ∈ l, 0 ≤ x ∧ x ≤ 255) (hn : l.length < 140737488355328) :
    Calls Try.prog 21 #[.slice A l.length c] w fun e w' => ∃ p, e = .returned (.pointer (some ⟨p, 0, none⟩)) ∧ w.heap.size ≤ p ∧ Rdr w.heap.size p l false w' ∧ Below w.heap.size w w' := by
  have HC := Aside0.mk hC
  have HCC := Aside0.mk hc
  have HB := Aside0.mk hb
  have HF : Aside0 (slices_Clone_byte.f l = some l) := ⟨by unfold slices_Clone_byte.f; simp only [Option.bind_some]; rw [if_pos (by simp; omega)]; rfl⟩
  clear hC hc hb hn
  go_enter Try.func21, Try.ntmps21
  go_wp2_with (go_at_call 41; (with_reducible refine (slices_Clone_byte.calls A c l l w HC.out HCC.out HF.out).mono ?_); rintro e w1 ⟨v, rfl, ho, hbl⟩; have HO := Aside0.mk ho; have HBL := Aside0.mk hbl; obtain ⟨A1, c1, e1, h1, h2⟩ := Kd.R_reads ho; subst e1; have HR1 := Aside0.mk h1; have HR2 := Aside0.mk h2; clear ho hbl h1 h2)
  go_ret
  refine ⟨w1.heap.size, rfl, HBL.out.size, ⟨⟨A1, c1, heap_alloc_new w1 _, HR1.out, ?_, Kd.C_below HR2.out (below_alloc (Below.refl _ _) _), ?_⟩, HB.out⟩, below_alloc HBL.out _⟩
  · obtain ⟨_, inner, hown, _⟩ := HO.out
    rcases hown.2 with ⟨e, _⟩ | ⟨g, cap, cur, e, _, _, _, hm, _⟩
    · injection e with e1 e2 e3; omega
    · injection e with e1 e2 e3; unfold maxLen at hm; omega
  · intro ad ha
    have hk : (Value.slice A1 l.length c1).ownBlock = some ad.block := by rw [ha]; rfl
    exact ⟨Kd.R_base HO.out _ hk, Kd.R_lt HO.out _ hk⟩
end Go.Proofs.Ytjmkpcnekghmhaa.PAll
end
section
namespace Go.Proofs.Ytjmkpcnekghmhaa.PAll
open Go.RowKit Go.Proofs.YtjmkpcnekghmhaaW.PrintWords Go.Proofs.YtjmkpcnekghmhaaW.PrintLast Go.Proofs.YtjmkpcnekghmhaaW.PrintMore
attribute [local go_sem] max2_int min2_int max_two min_two max_three min_three max_four min_four   -- for this text's walks alone
set_option linter.unusedVariables false
set_option linter.unusedSimpArgs false

/-! ### entry_Decode: function 30 -/
-- beside new_f
theorem wp_scope_fwd {P : Program} {a : Act} {w : World} {Q : Exit → Act → World → Prop} {c rest : Code} (l : Nat) (hf : findLabel c l = some (Code.skip.seq rest))
    (h : c.wp P (Exit.jump l (fun a' w' => rest.wp P (Exit.jump l (fun _ _ => False) Q) a' w') Q) a w) : (Code.scope c).wp P Q a w := by
  refine wp_scope_jumps l (fun a' w' => rest.wp P (Exit.jump l (fun _ _ => False) Q) a' w') (fun _ _ => 0) hf h ?_
  intro a w hJ
  refine wp_seq (wp_skip ?_)
  show rest.wp _ _ _ _
  refine wp_mono hJ ?_
  intro e a' w' hq
  cases e <;> first | exact hq | exact hq.2.elim
theorem rdr_lt' {base p : Nat} {xs : List Int} {b : Bool} {W : World} (h : Rdr base p xs b W) : p < W.heap.size := by
  obtain ⟨A, c, h1, _⟩ := h.ex
  exact blk_lt h1
def dec_args : Nat → (List Int × Bool) → List Int → List Int × (List Int × Bool)
  | 0, s, out => (out, s)
  | n + 1, s, out => dec_args n (rInt s).2 (out ++ [(rInt s).1])
def dec_legs : Nat → (List Int × Bool) → List S87 → List S87 × (List Int × Bool)
  | 0, s, out => (out, s)
  | n + 1, s, out => dec_legs n (rInt (rInt s).2).2 (out ++ [⟨(rInt s).1, (rInt (rInt s).2).1⟩])
set_option maxHeartbeats 2000000 in
theorem many_f {base p : Nat} (s : List Int × Bool) (m : Int) (W : World) (h : Rdr base p s.1 s.2 W) : Calls Try.prog 46 #[.pointer (some ⟨p, 0, none⟩), .int .i64 m] W fun e W' => e = .returned (.tuple #[.int .i64 (rInt s).1, .bool (decide (0 ≤ (rInt s).1) && decide ((rInt s).1 ≤ m))]) ∧ Rdr base p (rInt s).2.1 (rInt s).2.2 W' ∧ Puts p W W' := by
  have HR := Aside0.mk h
  clear h
  obtain ⟨n, hn⟩ : ∃ n, (rInt s).1 = n := ⟨_, rfl⟩
  have HN := Aside0.mk hn
  rw [hn]
  clear hn
  by_cases h0 : 0 ≤ n
  · have d0 : decide (0 ≤ n) = true := decide_eq_true h0
    have d1 := eq_true h0
    clear h0
    go_enter Try.func46, Try.ntmps46
    go_wp2_with (first | (go_at_call 25; (with_reducible refine (int_f s _ HR.out).mono ?_); rintro e w1 ⟨rfl, hr, hp⟩; rw [HN.out]; have HP := Aside0.mk (And.intro hr hp); clear hr hp))
    go_ret2
    exact ⟨by simp [d1], HP.out.1, HP.out.2⟩
  · have d0 : decide (0 ≤ n) = false := decide_eq_false h0
    have d1 := eq_false h0
    clear h0
    go_enter Try.func46, Try.ntmps46
    go_wp2_with (first | (go_at_call 25; (with_reducible refine (int_f s _ HR.out).mono ?_); rintro e w1 ⟨rfl, hr, hp⟩; rw [HN.out]; have HP := Aside0.mk (And.intro hr hp); clear hr hp))
    go_ret2
    exact ⟨by simp [d1], HP.out.1, HP.out.2⟩
theorem Rdr.step2 {base p : Nat} {xs : List Int} {bad : Bool} {W W1 : World} (h : Rdr base p xs bad W) (hm : ∀ k, base ≤ k → k ≤ p → k < W.heap.size → W1.heap[k]? = W.heap[k]?) (hb : base ≤ p) : Rdr base p xs bad W1 := by
  obtain ⟨A, c, h1, h2, h3, h4, h5⟩ := h.ex
  have hp := blk_lt h1
  exact ⟨⟨A, c, (hm p hb (Nat.le_refl _) hp).trans h1, h2, h3, C_same h4 (fun ad ha => hm _ (h5 ad ha).1 (by have := (h5 ad ha).2; omega) (by have := (h5 ad ha).2; omega)), h5⟩, h.by_⟩
structure DecS (w : World) (gr gb base p : Nat) (a b c : Int) (d e : ByteArray) (oka okl : Nat → Prop) (va vl : Value) (args : List Int) (legs : List S87) (s : List Int × Bool) (W : World) : Prop where
  res : W.heap[gr]? = some (.cells #[.int .i64 0, .int .i64 0, .int .i64 0, .string ⟨#[]⟩, .string ⟨#[]⟩, .slice none 0 0, .slice none 0 0] 50 (0, 0))
  blk : W.heap[gb]? = some (.cells #[.int .i64 a, .int .i64 b, .int .i64 c, .string d, .string e, va, vl] 50 (0, 0))
  rd : Rdr base p s.1 s.2 W
  oa : Kd.R (Kd.int .i64) 3 W w.heap.size oka va args
  ol : Kd.R k87 87 W w.heap.size okl vl legs
  below : Below w.heap.size w W
  lo : w.heap.size ≤ gr ∧ gr < base ∧ base ≤ p ∧ p < gb
  ha : ∀ k, oka k → gb < k
  hl : ∀ k, okl k → gb < k
section
variable {w : World} {gr gb base p : Nat} {a b c : Int} {d e : ByteArray} {oka okl oka' okl' : Nat → Prop} {va vl va' vl' : Value} {args args' : List Int} {legs legs' : List S87} {s s' : List Int × Bool} {W W1 W2 : World}
theorem DecS.go (h : DecS w gr gb base p a b c d e oka okl va vl args legs s W) (hb : Below W.heap.size W W1) : DecS w gr gb base p a b c d e oka okl va vl args legs s W1 :=
  ⟨blk_below h.res hb, blk_below h.blk hb, h.rd.below hb, Kd.R_below h.oa hb, Kd.R_below h.ol hb, below_step h.below hb, h.lo, h.ha, h.hl⟩
theorem DecS.puts (h : DecS w gr gb base p a b c d e oka okl va vl args legs s W) (hr : Rdr base p s'.1 s'.2 W1) (hp : Puts p W W1) : DecS w gr gb base p a b c d e oka okl va vl args legs s' W1 := by
  have hlo := h.lo
  have hk := (hp 0 (Nat.zero_le _)).2.2
  exact ⟨(hk gr (by omega)).trans h.res, (hk gb (by omega)).trans h.blk, hr, Kd.R_step h.oa (fun k ho _ => hk k (by have := h.ha k ho; omega)), Kd.R_step h.ol (fun k ho _ => hk k (by have := h.hl k ho; omega)), hp.below (by omega) h.below, h.lo, h.ha, h.hl⟩
theorem DecS.mono (h : DecS w gr gb base p a b c d e oka okl va vl args legs s W) (ha : ∀ k, oka k → k < W.heap.size → oka' k) (hl : ∀ k, okl k → k < W.heap.size → okl' k) (ha2 : ∀ k, oka' k → gb < k) (hl2 : ∀ k, okl' k → gb < k) : DecS w gr gb base p a b c d e oka' okl' va vl args legs s W :=
  ⟨h.res, h.blk, h.rd, Kd.R_mono (Kd.R_bound h.oa) (fun k hk => ha k hk.1 hk.2.2.1), Kd.R_mono (Kd.R_bound h.ol) (fun k hk => hl k hk.1 hk.2.2.1), h.below, h.lo, ha2, hl2⟩
theorem DecS.setA (h : DecS w gr gb base p a b c d e oka okl va vl args legs s W) (hg : W.grownBy W2 va.ownBlock) (ho : Kd.R (Kd.int .i64) 3 W2 w.heap.size oka va' args') (hb : Below w.heap.size w W2) (hd : ∀ k, okl k → ¬ oka k) : DecS w gr gb base p a b c d e oka okl va' vl args' legs s (W2.setCell ⟨gb, 5, none⟩ va') := by
  have hlo := h.lo
  have hne : ∀ k, k ≤ gb → k < W.heap.size → W2.heap[k]? = W.heap[k]? := fun k hk hlt => hg.block k hlt (fun he => by have := h.ha k (h.oa.1 k he.symm); omega)
  have hrg : ∀ k, k ≠ gb → (W2.setCell ⟨gb, 5, none⟩ va').heap[k]? = W2.heap[k]? := fun k hk => Below.heap_setCell W2 _ _ k hk
  refine ⟨(hrg gr (by omega)).trans ((hne gr (by omega) (blk_lt h.res)).trans h.res), blk_put ((hne gb (Nat.le_refl _) (blk_lt h.blk)).trans h.blk) 5 _ rfl, (h.rd.step2 (fun k _ hk hlt => hne k (by omega) hlt) hlo.2.2.1).step2 (fun k _ hk _ => hrg k (by omega)) hlo.2.2.1, Kd.R_far ho (fun k hk => by have := h.ha k hk; show k ≠ gb; omega) _, Kd.R_far (Kd.R_step h.ol (fun k hk hlt => hg.block k hlt (fun he => hd k hk (h.oa.1 k he.symm)))) (fun k hk => by have := h.hl k hk; show k ≠ gb; omega) _, below_set hb (by show w.heap.size ≤ gb; omega), h.lo, h.ha, h.hl⟩
theorem DecS.setL (h : DecS w gr gb base p a b c d e oka okl va vl args legs s W) (hg : W.grownBy W2 vl.ownBlock) (ho : Kd.R k87 87 W2 w.heap.size okl vl' legs') (hb : Below w.heap.size w W2) (hd : ∀ k, okl k → ¬ oka k) : DecS w gr gb base p a b c d e oka okl va vl' args legs' s (W2.setCell ⟨gb, 6, none⟩ vl') := by
  have hlo := h.lo
  have hne : ∀ k, k ≤ gb → k < W.heap.size → W2.heap[k]? = W.heap[k]? := fun k hk hlt => hg.block k hlt (fun he => by have := h.hl k (h.ol.1 k he.symm); omega)
  have hrg : ∀ k, k ≠ gb → (W2.setCell ⟨gb, 6, none⟩ vl').heap[k]? = W2.heap[k]? := fun k hk => Below.heap_setCell W2 _ _ k hk
  refine ⟨(hrg gr (by omega)).trans ((hne gr (by omega) (blk_lt h.res)).trans h.res), blk_put ((hne gb (Nat.le_refl _) (blk_lt h.blk)).trans h.blk) 6 _ rfl, (h.rd.step2 (fun k _ hk hlt => hne k (by omega) hlt) hlo.2.2.1).step2 (fun k _ hk _ => hrg k (by omega)) hlo.2.2.1, Kd.R_far (Kd.R_step h.oa (fun k hk hlt => hg.block k hlt (fun he => hd k (h.ol.1 k he.symm) hk))) (fun k hk => by have := h.ha k hk; show k ≠ gb; omega) _, Kd.R_far ho (fun k hk => by have := h.hl k hk; show k ≠ gb; omega) _, below_set hb (by show w.heap.size ≤ gb; omega), h.lo, h.ha, h.hl⟩
theorem DecS.start {w1 w6 : World} (hb : Below (w.alloc (.cells #[.int .i64 0, .int .i64 0, .int .i64 0, .string ⟨#[]⟩, .string ⟨#[]⟩, .slice none 0 0, .slice none 0 0] 50 (0, 0))).heap.size (w.alloc (.cells #[.int .i64 0, .int .i64 0, .int .i64 0, .string ⟨#[]⟩, .string ⟨#[]⟩, .slice none 0 0, .slice none 0 0] 50 (0, 0))) w1) (hp : w.heap.size + 1 ≤ p) (hu : Puts p w1 w6) (hr : Rdr (w.heap.size + 1) p s.1 s.2 w6) :
    DecS w w.heap.size w6.heap.size (w.heap.size + 1) p a b c d e (fun k => w6.heap.size < k) (fun _ => False) (.slice none 0 0) (.slice none 0 0) [] [] s (w6.alloc (.cells #[.int .i64 a, .int .i64 b, .int .i64 c, .string d, .string e, .slice none 0 0, .slice none 0 0] 50 (0, 0))) := by
  have hpl := rdr_lt' hr
  have h0 : w1.heap[w.heap.size]? = _ := blk_below (heap_alloc_new w _) hb
  have h6 := ((hu 0 (Nat.zero_le _)).2.2 w.heap.size (by omega)).trans h0
  have hbw : Below w.heap.size w w6 := hu.below (by omega) (below_step (below_alloc (Below.refl _ _) _) hb)
  exact ⟨blk_below h6 (below_alloc (Below.refl _ _) _), heap_alloc_new w6 _, hr.below (below_alloc (Below.refl _ _) _), Kd.R_nil _ _ _ _ _, Kd.R_nil _ _ _ _ _, below_alloc hbw _, ⟨Nat.le_refl _, Nat.lt_succ_self _, hp, hpl⟩, fun k hk => hk, fun k hk => hk.elim⟩
end
set_option maxHeartbeats 2000000 in
theorem put7 {W : World} {g : Nat} {x0 x1 x2 x3 x4 x5 x6 : Value} (h : W.heap[g]? = some (.cells #[x0, x1, x2, x3, x4, x5, x6] 50 (0, 0))) (v0 v1 v2 v3 v4 v5 v6 : Value) :
    (((((((W.setCell ⟨g, 0, none⟩ v0).setCell ⟨g, 1, none⟩ v1).setCell ⟨g, 2, none⟩ v2).setCell ⟨g, 3, none⟩ v3).setCell ⟨g, 4, none⟩ v4).setCell ⟨g, 5, none⟩ v5).setCell ⟨g, 6, none⟩ v6).heap[g]? = some (.cells #[v0, v1, v2, v3, v4, v5, v6] 50 (0, 0)) := by
  have h0 := blk_put h 0 v0 rfl
  generalize W.setCell ⟨g, 0, none⟩ v0 = W0 at h0 ⊢
  have h1 := blk_put h0 1 v1 rfl
  generalize W0.setCell ⟨g, 1, none⟩ v1 = W1 at h1 ⊢
  have h2 := blk_put h1 2 v2 rfl
  generalize W1.setCell ⟨g, 2, none⟩ v2 = W2 at h2 ⊢
  have h3 := blk_put h2 3 v3 rfl
  generalize W2.setCell ⟨g, 3, none⟩ v3 = W3 at h3 ⊢
  have h4 := blk_put h3 4 v4 rfl
  generalize W3.setCell ⟨g, 4, none⟩ v4 = W4 at h4 ⊢
  have h5 := blk_put h4 5 v5 rfl
  generalize W4.setCell ⟨g, 5, none⟩ v5 = W5 at h5 ⊢
  exact blk_put h5 6 v6 rfl
theorem puts7 (W : World) (g : Nat) (v0 v1 v2 v3 v4 v5 v6 : Value) :
    Puts g W (((((((W.setCell ⟨g, 0, none⟩ v0).setCell ⟨g, 1, none⟩ v1).setCell ⟨g, 2, none⟩ v2).setCell ⟨g, 3, none⟩ v3).setCell ⟨g, 4, none⟩ v4).setCell ⟨g, 5, none⟩ v5).setCell ⟨g, 6, none⟩ v6) := by
  have h := (Puts.refl g W).set 0 v0
  generalize W.setCell ⟨g, 0, none⟩ v0 = W0 at h ⊢
  replace h := h.set 1 v1
  generalize W0.setCell ⟨g, 1, none⟩ v1 = W1 at h ⊢
  replace h := h.set 2 v2
  generalize W1.setCell ⟨g, 2, none⟩ v2 = W2 at h ⊢
  replace h := h.set 3 v3
  generalize W2.setCell ⟨g, 3, none⟩ v3 = W3 at h ⊢
  replace h := h.set 4 v4
  generalize W3.setCell ⟨g, 4, none⟩ v4 = W4 at h ⊢
  replace h := h.set 5 v5
  generalize W4.setCell ⟨g, 5, none⟩ v5 = W5 at h ⊢
  exact h.set 6 v6
theorem jump_ret {l : Nat} {J : Act → World → Prop} {Q : Exit → Act → World → Prop} {a : Act} {w : World} (h : Q .ret a w) : Exit.jump l J Q .ret a w := h
theorem int_e {base p : Nat} {s : List Int × Bool} {st : Int × (List Int × Bool)} (hs : rInt s = st) (W : World) (h : Rdr base p s.1 s.2 W) : Calls Try.prog 25 #[.pointer (some ⟨p, 0, none⟩)] W fun e W' => e = .returned (.int .i64 st.1) ∧ Rdr base p st.2.1 st.2.2 W' ∧ Puts p W W' := by
  subst hs; exact int_f s W h
theorem many_e {base p : Nat} {s : List Int × Bool} {st : Int × (List Int × Bool)} {mb : Bool} (m : Int) (hs : rInt s = st) (hm : (decide (0 ≤ st.1) && decide (st.1 ≤ m)) = mb) (W : World) (h : Rdr base p s.1 s.2 W) : Calls Try.prog 46 #[.pointer (some ⟨p, 0, none⟩), .int .i64 m] W fun e W' => e = .returned (.tuple #[.int .i64 st.1, .bool mb]) ∧ Rdr base p st.2.1 st.2.2 W' ∧ Puts p W W' := by
  subst hs; subst hm; exact many_f s m W h
theorem end_e {base p : Nat} {s : List Int × Bool} {eb : Bool} (he : rEnd s = eb) (W : World) (h : Rdr base p s.1 s.2 W) : Calls Try.prog 26 #[.pointer (some ⟨p, 0, none⟩)] W fun e W' => e = .returned (.bool eb) ∧ W' = W := by
  subst he; exact end_f s W h
theorem DecS.split {w : World} {gr gb base p : Nat} {a b c : Int} {d e : ByteArray} {va : Value} {args : List Int} {s : List Int × Bool} {W : World} (h : DecS w gr gb base p a b c d e (fun k => gb < k) (fun _ => False) va (.slice none 0 0) args [] s W) :
    DecS w gr gb base p a b c d e (fun k => some k = va.ownBlock) (fun k => gb < k ∧ some k ≠ va.ownBlock) va (.slice none 0 0) args [] s W :=
  ⟨h.res, h.blk, h.rd, Kd.R_mono (Kd.R_tight rfl h.oa) (fun _ hk => hk), Kd.R_nil _ _ _ _ _, h.below, h.lo, fun k hk => h.oa.1 k hk.symm, fun k hk => hk.1⟩
def decBad : Int × Int × Int × ByteArray × ByteArray × List Int × List S87 × Int := (0, 0, 0, ⟨#[]⟩, ⟨#[]⟩, [], [], 3)
def decU (a b c : Int) (d e : ByteArray) (args : List Int) (q : List S87 × (List Int × Bool)) : Int × Int × Int × ByteArray × ByteArray × List Int × List S87 × Int := if rEnd q.2 = true then (a, b, c, d, e, args, q.1, 0) else decBad
def decT (a b c : Int) (d e : ByteArray) (q : List Int × (List Int × Bool)) : Int × Int × Int × ByteArray × ByteArray × List Int × List S87 × Int := if 0 ≤ (rInt q.2).1 ∧ (rInt q.2).1 ≤ 64 then decU a b c d e q.1 (dec_legs (rInt q.2).1.toNat (rInt q.2).2 []) else decBad
def decF (l0 : List Int) : Int × Int × Int × ByteArray × ByteArray × List Int × List S87 × Int :=
  if 0 ≤ (rInt (rText (rText (rInt (rInt (rInt (l0, false)).2).2).2 16).2 16).2).1 ∧ (rInt (rText (rText (rInt (rInt (rInt (l0, false)).2).2).2 16).2 16).2).1 ≤ 8 then
    decT (rInt (l0, false)).1 (rInt (rInt (l0, false)).2).1 (rInt (rInt (rInt (l0, false)).2).2).1 (strOfNums (rText (rInt (rInt (rInt (l0, false)).2).2).2 16).1) (strOfNums (rText (rText (rInt (rInt (rInt (l0, false)).2).2).2 16).2 16).1)
      (dec_args (rInt (rText (rText (rInt (rInt (rInt (l0, false)).2).2).2 16).2 16).2).1.toNat (rInt (rText (rText (rInt (rInt (rInt (l0, false)).2).2).2 16).2 16).2).2 [])
  else decBad
theorem heap_size_alloc (w : World) (o : Obj) : (w.alloc o).heap.size = w.heap.size + 1 := by simp
def DecA.T7 : Bool × List (List Nat × List Nat) := (true, [([], []), ([0], [0]), ([], []), ([2], [2]), ([3], [3]), ([1, 4, 3], [1, 4]), ([0, 1, 2, 3, 4, 5], []), ([6, 5, 5, 0, 1, 2, 3, 4, 5], [5, 6])])
def DecA.B7 : List Nat := [0, 1, 0, 4, 12, 31, 63, 127]
theorem DecA.tab7 : rtab .any (opsOf Try.f30 7) = DecA.T7 := by kernel_rfl
theorem DecA.bits7 : waitsOk DecA.T7.2 DecA.B7 = true := by kernel_rfl
def DecB.T13 : Bool × List (List Nat × List Nat) := (true, [([], []), ([0], [0]), ([], []), ([2], [2]), ([], []), ([4, 3], [4]), ([3, 5], [3, 5]), ([6], [6]), ([1, 7, 5], [1, 7]), ([0, 1, 2, 3, 4, 5, 6, 7, 8], []), ([9, 8, 8, 0, 1, 2, 3, 4, 5, 6, 7, 8], [8, 9])])
def DecB.B13 : List Nat := [0, 1, 0, 4, 0, 28, 60, 124, 255, 511, 1023]
theorem DecB.tab13 : rtab .any (opsOf Try.f30 13) = DecB.T13 := by kernel_rfl
theorem DecB.bits13 : waitsOk DecB.T13.2 DecB.B13 = true := by kernel_rfl
set_option maxHeartbeats 8000000 in
set_option maxRecDepth 100000 in
theorem entry_Decode.at_ (A0 : Option Addr) (c0 : Nat) (l0 : List Int) (w : World) (hr0 : Kd.C (Kd.int .u8) w A0 l0.length l0) (hc0 : l0.length ≤ c0) (hb : ∀ x ∈ l0, 0 ≤ x ∧ x ≤ 255) (hl : l0.length < 140737488355328) (r1 r2 r3 : Int) (r4 r5 : ByteArray) (r6 : List Int) (r7 : List S87) (r8 : Int) (h : decF l0 = (r1, r2, r3, r4, r5, r6, r7, r8)) :
    Calls Try.prog 30 #[.slice A0 l0.length c0] w fun e w' => ∃ v5_ v6_ : Value, e = .returned (.tuple #[.agg #[.int .i64 r1, .int .i64 r2, .int .i64 r3, .string r4, .string r5, v5_, v6_], .int .i64 r8]) ∧ Kd.R (Kd.int .i64) 3 w' w.heap.size (fun _ => True) v5_ r6 ∧ Kd.R k87 87 w' w.heap.size (fun _ => True) v6_ r7 ∧ Below w.heap.size w w' := by
  have HR := Aside0.mk hr0
  have HC := Aside0.mk hc0
  have HBB := Aside0.mk hb
  have HL := Aside0.mk hl
  clear hr0 hc0 hb hl
  obtain ⟨s1, hs1⟩ : ∃ s1, rInt (l0, false) = s1 := ⟨_, rfl⟩
  obtain ⟨s2, hs2⟩ : ∃ s2, rInt s1.2 = s2 := ⟨_, rfl⟩
  obtain ⟨s3, hs3⟩ : ∃ s3, rInt s2.2 = s3 := ⟨_, rfl⟩
  obtain ⟨s4, hs4⟩ : ∃ s4, rText s3.2 16 = s4 := ⟨_, rfl⟩
  obtain ⟨s5, hs5⟩ : ∃ s5, rText s4.2 16 = s5 := ⟨_, rfl⟩
  obtain ⟨s6, hs6⟩ : ∃ s6, rInt s5.2 = s6 := ⟨_, rfl⟩
  have hF : decF l0 = (if 0 ≤ s6.1 ∧ s6.1 ≤ 8 then decT s1.1 s2.1 s3.1 (strOfNums s4.1) (strOfNums s5.1) (dec_args s6.1.toNat s6.2 []) else decBad) := by unfold decF; simp only [hs1, hs2, hs3, hs4, hs5, hs6]
  rw [hF] at h
  obtain ⟨mb, hmb⟩ : ∃ mb, (decide (0 ≤ s6.1) && decide (s6.1 ≤ 8)) = mb := ⟨_, rfl⟩
  have H1 := Aside0.mk hs1
  have H2 := Aside0.mk hs2
  have H3 := Aside0.mk hs3
  have H4 := Aside0.mk hs4
  have H5 := Aside0.mk hs5
  have H6 := Aside0.mk hs6
  have HMB := Aside0.mk hmb
  have HH := Aside0.mk h
  clear hs1 hs2 hs3 hs4 hs5 hs6 hF h hmb
  go_enter Try.func30, Try.ntmps30
  go_wp2_with (fail)
  refine wp_scope_fwd 0 rfl ?_
  cases mb with
  | false =>
    have HBAD : Aside0 (decBad = (r1, r2, r3, r4, r5, r6, r7, r8)) := ⟨by have := HH.out; rw [if_neg (by have := HMB.out; simp at this; omega)] at this; exact this⟩
    go_wp2_with (first | (go_at_call 21; (with_reducible refine (new_f A0 c0 l0 _ (Kd.C_below HR.out (below_alloc (Below.refl _ _) _)) HC.out HBB.out HL.out).mono ?_); rintro e w1 ⟨p, rfl, hp, hr, hb⟩; rw [heap_size_alloc] at hp hr; have HRD := Aside0.mk hr; have HP := Aside0.mk hp; have HB1 := Aside0.mk hb; have HU := Aside0.mk (Puts.refl p w1); clear hr hp hb) | (go_at_call 25; (with_reducible refine (int_f (l0, false) _ HRD.out).mono ?_); rintro e w2 ⟨rfl, hr, hp⟩; rw [H1.out] at hr ⊢; clear HRD; have HRD := Aside0.mk hr; have n_ := Aside0.mk (HU.out.trans hp); clear HU; have HU := n_; clear n_ hr hp) | (go_at_call 25; (with_reducible refine (int_f s1.2 _ HRD.out).mono ?_); rintro e w3 ⟨rfl, hr, hp⟩; rw [H2.out] at hr ⊢; clear HRD; have HRD := Aside0.mk hr; have n_ := Aside0.mk (HU.out.trans hp); clear HU; have HU := n_; clear n_ hr hp) | (go_at_call 25; (with_reducible refine (int_f s2.2 _ HRD.out).mono ?_); rintro e w4 ⟨rfl, hr, hp⟩; rw [H3.out] at hr ⊢; clear HRD; have HRD := Aside0.mk hr; have n_ := Aside0.mk (HU.out.trans hp); clear HU; have HU := n_; clear n_ hr hp) | (go_at_call 23; (with_reducible refine (text_f s3.2 16 _ HRD.out).mono ?_); rintro e w5 ⟨rfl, hr, hp⟩; rw [H4.out] at hr ⊢; clear HRD; have HRD := Aside0.mk hr; have n_ := Aside0.mk (HU.out.trans hp); clear HU; have HU := n_; clear n_ hr hp) | (go_at_call 23; (with_reducible refine (text_f s4.2 16 _ HRD.out).mono ?_); rintro e w6 ⟨rfl, hr, hp⟩; rw [H5.out] at hr ⊢; clear HRD; have HRD := Aside0.mk hr; have n_ := Aside0.mk (HU.out.trans hp); clear HU; have HU := n_; clear n_ hr hp) | (go_at_call 46; have HD0 := Aside0.mk (DecS.start (a := s1.1) (b := s2.1) (c := s3.1) (d := strOfNums s4.1) (e := strOfNums s5.1) HB1.out HP.out HU.out HRD.out); (with_reducible refine (many_f s5.2 8 _ HD0.out.rd).mono ?_); rintro e w7 ⟨rfl, hr, hp⟩; rw [H6.out] at hr ⊢; have HD := Aside0.mk (HD0.out.puts hr hp); clear HD0 hr hp; generalize w6.heap.size = gb at HD ⊢; rw [HMB.out]))
    have HX := HBAD.out
    simp only [decBad, Prod.mk.injEq] at HX
    obtain ⟨rfl, rfl, rfl, rfl, rfl, rfl, rfl, rfl⟩ := HX
    clear HBAD
    have hz0 : World.cell? _ ⟨w.heap.size, 0, none⟩ = some (.int .i64 0) := (blk_cell HD.out.res 0).trans rfl
    have hf0 := blk_frozen HD.out.res 0
    have hz1 : World.cell? _ ⟨w.heap.size, 1, none⟩ = some (.int .i64 0) := (blk_cell HD.out.res 1).trans rfl
    have hf1 := blk_frozen HD.out.res 1
    have hz2 : World.cell? _ ⟨w.heap.size, 2, none⟩ = some (.int .i64 0) := (blk_cell HD.out.res 2).trans rfl
    have hf2 := blk_frozen HD.out.res 2
    have hz3 : World.cell? _ ⟨w.heap.size, 3, none⟩ = some (.string ⟨#[]⟩) := (blk_cell HD.out.res 3).trans rfl
    have hf3 := blk_frozen HD.out.res 3
    have hz4 : World.cell? _ ⟨w.heap.size, 4, none⟩ = some (.string ⟨#[]⟩) := (blk_cell HD.out.res 4).trans rfl
    have hf4 := blk_frozen HD.out.res 4
    have hz5 : World.cell? _ ⟨w.heap.size, 5, none⟩ = some (.slice none 0 0) := (blk_cell HD.out.res 5).trans rfl
    have hf5 := blk_frozen HD.out.res 5
    have hz6 : World.cell? _ ⟨w.heap.size, 6, none⟩ = some (.slice none 0 0) := (blk_cell HD.out.res 6).trans rfl
    have hf6 := blk_frozen HD.out.res 6
    go_step3
    refine ⟨rfl, ?_⟩
    go_wp2
    refine jump_ret ?_
    refine bodyPost_ret (results_ct rfl _ _ w.heap.size 50 #[.int .i64 0, .int .i64 0, .int .i64 0, .string (⟨#[]⟩ : ByteArray), .string (⟨#[]⟩ : ByteArray), .slice none 0 0, .slice none 0 0] (0, 0) _ rfl (put7 HD.out.res _ _ _ _ _ _ _) Try.underlying50 rfl (by kernel_rfl)) rfl ?_
    exact ⟨_, _, rfl, Kd.R_nil _ _ _ _ _, Kd.R_nil _ _ _ _ _, (puts7 _ _ _ _ _ _ _ _ _).below (Nat.le_refl _) HD.out.below⟩
  | true =>
    have HN : Aside0 (0 ≤ s6.1 ∧ s6.1 ≤ 8) := ⟨by have := HMB.out; simpa using this⟩
    have HH1 : Aside0 (decT s1.1 s2.1 s3.1 (strOfNums s4.1) (strOfNums s5.1) (dec_args s6.1.toNat s6.2 []) = (r1, r2, r3, r4, r5, r6, r7, r8)) := ⟨by have := HH.out; rwa [if_pos HN.out] at this⟩
    obtain ⟨T, hT⟩ : ∃ T, dec_args s6.1.toNat s6.2 [] = T := ⟨_, rfl⟩
    have HT := Aside0.mk hT
    rw [hT] at HH1
    clear hT HH
    go_wp2_with (first | (go_at_call 21; (with_reducible refine (new_f A0 c0 l0 _ (Kd.C_below HR.out (below_alloc (Below.refl _ _) _)) HC.out HBB.out HL.out).mono ?_); rintro e w1 ⟨p, rfl, hp, hr, hb⟩; rw [heap_size_alloc] at hp hr; have HRD := Aside0.mk hr; have HP := Aside0.mk hp; have HB1 := Aside0.mk hb; have HU := Aside0.mk (Puts.refl p w1); clear hr hp hb) | (go_at_call 25; (with_reducible refine (int_f (l0, false) _ HRD.out).mono ?_); rintro e w2 ⟨rfl, hr, hp⟩; rw [H1.out] at hr ⊢; clear HRD; have HRD := Aside0.mk hr; have n_ := Aside0.mk (HU.out.trans hp); clear HU; have HU := n_; clear n_ hr hp) | (go_at_call 25; (with_reducible refine (int_f s1.2 _ HRD.out).mono ?_); rintro e w3 ⟨rfl, hr, hp⟩; rw [H2.out] at hr ⊢; clear HRD; have HRD := Aside0.mk hr; have n_ := Aside0.mk (HU.out.trans hp); clear HU; have HU := n_; clear n_ hr hp) | (go_at_call 25; (with_reducible refine (int_f s2.2 _ HRD.out).mono ?_); rintro e w4 ⟨rfl, hr, hp⟩; rw [H3.out] at hr ⊢; clear HRD; have HRD := Aside0.mk hr; have n_ := Aside0.mk (HU.out.trans hp); clear HU; have HU := n_; clear n_ hr hp) | (go_at_call 23; (with_reducible refine (text_f s3.2 16 _ HRD.out).mono ?_); rintro e w5 ⟨rfl, hr, hp⟩; rw [H4.out] at hr ⊢; clear HRD; have HRD := Aside0.mk hr; have n_ := Aside0.mk (HU.out.trans hp); clear HU; have HU := n_; clear n_ hr hp) | (go_at_call 23; (with_reducible refine (text_f s4.2 16 _ HRD.out).mono ?_); rintro e w6 ⟨rfl, hr, hp⟩; rw [H5.out] at hr ⊢; clear HRD; have HRD := Aside0.mk hr; have n_ := Aside0.mk (HU.out.trans hp); clear HU; have HU := n_; clear n_ hr hp) | (go_at_call 46; have HD0 := Aside0.mk (DecS.start (a := s1.1) (b := s2.1) (c := s3.1) (d := strOfNums s4.1) (e := strOfNums s5.1) HB1.out HP.out HU.out HRD.out); (with_reducible refine (many_f s5.2 8 _ HD0.out.rd).mono ?_); rintro e w7 ⟨rfl, hr, hp⟩; rw [H6.out] at hr ⊢; have HD := Aside0.mk (HD0.out.puts hr hp); clear HD0 hr hp; generalize w6.heap.size = gb at HD ⊢; rw [HMB.out]))
    go_loopg [29] s6.1.toNat (fun kq v29 w' => ∃ (x29 : Int) (va : Value) (args : List Int) (s : List Int × Bool), v29 = .int .i64 x29 ∧ Aside0 (x29 + kq = s6.1 ∧ 0 ≤ x29 ∧ (args.length : Int) = x29) ∧ Aside0 (dec_args kq s args = T) ∧ Aside0 (DecS w w.heap.size gb (w.heap.size + 1) p s1.1 s2.1 s3.1 (strOfNums s4.1) (strOfNums s5.1) (fun k => gb < k) (fun _ => False) va (.slice none 0 0) args [] s w'))
    case atStart => exact ⟨0, _, [], s6.2, rfl, ⟨by have := HN.out; simp; omega⟩, HT, HD⟩
    case round =>
      clear HD HT
      obtain ⟨x29, va, args, s, rfl, HK, HT, HD⟩ := hrel
      by_cases d1 : x29 < s6.1
      · have d1b : decide (x29 < s6.1) = true := decide_eq_true d1
        obtain ⟨k1, rfl⟩ : ∃ k1, gk = k1 + 1 := ⟨gk - 1, by have := HK.out; omega⟩
        obtain ⟨st, hst⟩ : ∃ st, rInt s = st := ⟨_, rfl⟩
        have HT2 : Aside0 (dec_args k1 st.2 (args ++ [st.1]) = T) := ⟨by have := HT.out; rw [dec_args, hst] at this; exact this⟩
        have HST := Aside0.mk hst
        have HAL : Aside0 (args.length ≤ 8) := ⟨by have := HK.out; have := HN.out; omega⟩
        have e29 : wrap64 (x29 + 1) = x29 + 1 := by have := HK.out; have := HN.out; unfold wrap64; omega
        clear d1 HT hst
        go_upto_region 7 with (fail)
        refine start_ (n := 8) (S := fun w' => w'.cell? ⟨gb, 5, none⟩ = some va) (ds := [7]) #[false, false, false, false, false, false, false, false] (by kernel_rfl) rfl rfl ((blk_cell (HD.out.go (below_drew (Below.refl _ _))).blk 5).trans rfl) (fun hHeld => ?_); refine with_tabW DecA.tab7 DecA.bits7 (fun HT_ HW_ => ?_)
        have n_ := Aside0.mk (HD.out.go (below_drew (Below.refl _ _)))
        clear HD
        have HD := n_
        clear n_
        generalize World.drew _ = wz at HD hHeld ⊢
        refine pure_ (i := 0) (N := some 31) (v := ?_) (a' := ?_) #[true, false, false, false, false, false, false, false] rfl rfl (any_of HT_.out (by kernel_rfl)) (fun _ _ _ h => h) (Or.inl ⟨by rfl, ?_⟩) ?_ ?_
        rotate_left
        · intro w'
          go_simp
          with_reducible rfl
        rotate_left
        · simp only [Act.put, List.setIfInBounds_toArray, List.set_cons_zero, List.set_cons_succ, i64_w, i32_w]
          rfl
        refine take_ (i := 1) (N := some 32) (v := ?_) (a' := ?_) #[true, true, false, false, false, false, false, false] rfl rfl (take_ofW HT_.out HW_.out (by kernel_rfl)) (fun _ _ _ h => h) (Or.inl ⟨by rfl, ?_⟩) hHeld ?_ ?_
        rotate_left
        · rintro w' hs_
          go_simp
          with_reducible rfl
        rotate_left
        · simp only [Act.put, List.setIfInBounds_toArray, List.set_cons_zero, List.set_cons_succ, i64_w, i32_w]
          rfl
        refine pure_ (i := 2) (N := some 33) (v := ?_) (a' := ?_) #[true, true, true, false, false, false, false, false] rfl rfl (any_of HT_.out (by kernel_rfl)) (fun _ _ _ h => h) (Or.inl ⟨by rfl, ?_⟩) ?_ ?_
        rotate_left
        · intro w'
          go_simp
          with_reducible rfl
        rotate_left
        · simp only [Act.put, List.setIfInBounds_toArray, List.set_cons_zero, List.set_cons_succ, i64_w, i32_w]
          rfl
        refine one_ (i := 3) (N := some 34) #[true, true, true, true, false, false, false, false] rfl rfl (one_of HT_.out (by kernel_rfl)) (by decide) (fun K hK => ?_)
        refine goes_ Try.func25 (by kernel_rfl) rfl #[.pointer (some ⟨p, 0, none⟩)] (by rfl) rfl rfl (by (try simp only [List.map_toArray, List.map_cons, List.map_nil]); first | done | rfl | (simp only [List.length_drop, List.length_take]; rfl)) ?_
        with_reducible refine (int_e HST.out _ HD.out.rd).mono ?_
        rintro e wq ⟨rfl, hr, hp⟩; have n_ := Aside0.mk (HD.out.puts hr hp); clear HD; have HD := n_; clear n_ hr hp
        refine ⟨_, rfl, ?_⟩
        refine hK.out _ _ ((blk_cell HD.out.blk 5).trans rfl) (fun hHeld => ?_)
        clear hK K
        refine norm_ (a' := ?_) ?_ ?_
        rotate_left
        · show Act.put _ (some 34) _ = _
          simp only [Act.put, List.setIfInBounds_toArray, List.set_cons_zero, List.set_cons_succ, i64_w, i32_w]
          rfl
        refine one_ (i := 4) (N := some 35) #[true, true, true, true, true, false, false, false] rfl rfl (one_of HT_.out (by kernel_rfl)) (by decide) (fun K hK => ?_)
        refine Kd.R_lit_step (Kd.int .i64) _ 3 ?hg (N := 35) ?hd (xs := ([st.1] : List Int)) (inner := [.int .i64 st.1]) (ok := fun _ => True) (okp := fun _ => True) ?hr ?hp (fun _ hk => hk) trivial (Below.refl _ _) (Nat.le_refl _) (by simp) ?_; (case hd => rfl); (case hg => rfl); (case hr => first | (go_simp; done) | (go_simp; rfl)); (case hp => exact (Reps.snoc (p := st.1) (c := [.int .i64 st.1]) (Reps.none _ _) rfl rfl))
        intro v2 w2 ho2 hb2 hg_ hnew_
        clear hg_ hnew_
        have n_ := Aside0.mk (HD.out.go hb2)
        clear HD
        have HD := n_
        clear n_
        obtain ⟨A2, c2, e2, hc2, hC2⟩ := Kd.R_reads ho2
        subst e2
        have HC2 := Aside0.mk hC2
        clear hb2 ho2 hC2 hc2
        refine hK.out _ _ ((blk_cell HD.out.blk 5).trans rfl) (fun hHeld => ?_)
        clear hK K
        refine norm_ (a' := ?_) ?_ ?_
        rotate_left
        · show Act.put _ (some 35) _ = _
          simp only [Act.put, List.setIfInBounds_toArray, List.set_cons_zero, List.set_cons_succ, i64_w, i32_w]
          rfl
        refine one_ (i := 5) (N := some 36) #[true, true, true, true, true, true, false, false] rfl rfl (one_of HT_.out (by kernel_rfl)) (by decide) (fun K hK => ?_)
        refine Kd.R_append_rows_step (Kd.int .i64) (w0 := w) w.heap.size (by rfl) (.tmp 32) (.tmp 35) 42 3 (.int .i64 0) 8 rfl Try.underlying42 info3 rfl (by decide) (by omega) va args ([st.1] : List Int) _ _ _ (fun k => gb < k) (fun _ => False) rfl rfl ?aO ?aR (fun _ _ h => h) (fun _ h => h.elim) ?aF ?aB ?aS ?aL ?_
        (case aR => exact HC2.out)
        (case aB => exact HD.out.below)
        (case aF => exact (fun k_ hk => by have := blk_lt HD.out.blk; omega))
        (case aO => exact HD.out.oa)
        (case aS => exact below_size HD.out.below)
        (case aL => have := HAL.out; simp; omega)
        intro v3 w3 ho hb hg hat
        have BK3 := Aside0.mk (blk_grown HD.out.blk hg (fun e_ => by have := HD.out.ha _ (HD.out.oa.1 _ e_.symm); omega))
        have HO3 := Aside0.mk ho
        have HB3 := Aside0.mk hb
        have HG3 := Aside0.mk hg
        clear ho hb hg hat
        obtain ⟨A3, cc3, e3⟩ := Kd.R_slice HO3.out
        subst e3
        refine hK.out _ _ ((blk_cell BK3.out 5).trans rfl) (fun hHeld => ?_)
        clear hK K
        refine norm_ (a' := ?_) ?_ ?_
        rotate_left
        · show Act.put _ (some 36) _ = _
          simp only [Act.put, List.setIfInBounds_toArray, List.set_cons_zero, List.set_cons_succ, i64_w, i32_w]
          rfl
        refine pure_ (i := 6) (N := some 37) (v := ?_) (a' := ?_) #[true, true, true, true, true, true, true, false] rfl rfl (any_of HT_.out (by kernel_rfl)) (fun _ _ _ h => h) (Or.inl ⟨by rfl, ?_⟩) ?_ ?_
        rotate_left
        · intro w'
          go_simp
          with_reducible rfl
        rotate_left
        · simp only [Act.put, List.setIfInBounds_toArray, List.set_cons_zero, List.set_cons_succ, i64_w, i32_w]
          rfl
        refine last_ (i := 7) (N := none) #[true, true, true, true, true, true, true, true] rfl rfl (one_of HT_.out (by kernel_rfl)) (by decide) (fun K hK => ?_)
        have hcl : w3.cell? ⟨gb, 5, none⟩ = some va := (blk_cell BK3.out 5).trans rfl
        have hfr := blk_frozen BK3.out 5
        refine skip_ (w1 := ?_) (by rfl) rfl ?_ ?_
        rotate_left
        · go_simp
          rfl
        refine hK.out _ _ ?_
        clear hK K
        refine done_ (done_of HT_.out (by kernel_rfl)) ?_
        try go_wp2
        have ho3 := HO3.out
        rw [show (args ++ [st.1]).length = args.length + 1 by simp] at ho3
        go_roundg k1
        case measure => omega
        case rel => exact ⟨x29 + 1, _, args ++ [st.1], st.2, by rw [e29], ⟨by have := HK.out; simp; omega⟩, HT2, ⟨HD.out.setA HG3.out ho3 HB3.out (fun _ h => h.elim)⟩⟩
      · have d1b : decide (x29 < s6.1) = false := decide_eq_false d1
        have hk0 : gk = 0 := by have := HK.out; omega
        subst hk0
        have HT2 : Aside0 (T = (args, s)) := ⟨HT.out.symm⟩
        clear HT d1
        obtain ⟨s7, hs7⟩ : ∃ s7, rInt s = s7 := ⟨_, rfl⟩
        obtain ⟨mb, hmb⟩ : ∃ mb, (decide (0 ≤ s7.1) && decide (s7.1 ≤ 64)) = mb := ⟨_, rfl⟩
        have H7 := Aside0.mk hs7
        have HMB2 := Aside0.mk hmb
        have HH2 : Aside0 ((if 0 ≤ s7.1 ∧ s7.1 ≤ 64 then decU s1.1 s2.1 s3.1 (strOfNums s4.1) (strOfNums s5.1) args (dec_legs s7.1.toNat s7.2 []) else decBad) = (r1, r2, r3, r4, r5, r6, r7, r8)) := ⟨by have := HH1.out; rw [HT2.out] at this; unfold decT at this; rw [hs7] at this; exact this⟩
        clear hs7 hmb HT2 HH1
        cases mb with
        | false =>
          have HBAD : Aside0 (decBad = (r1, r2, r3, r4, r5, r6, r7, r8)) := ⟨by have := HH2.out; rw [if_neg (by have := HMB2.out; simp at this; omega)] at this; exact this⟩
          go_wp2_with (first | (go_at_call 46; (with_reducible refine (many_e 64 H7.out HMB2.out _ HD.out.rd).mono ?_); rintro e w8 ⟨rfl, hr, hp⟩; have n_ := Aside0.mk (HD.out.puts hr hp); clear HD; have HD := n_; clear n_ hr hp))
          have HX := HBAD.out
          simp only [decBad, Prod.mk.injEq] at HX
          obtain ⟨rfl, rfl, rfl, rfl, rfl, rfl, rfl, rfl⟩ := HX
          clear HBAD
          have hz0 : World.cell? _ ⟨w.heap.size, 0, none⟩ = some (.int .i64 0) := (blk_cell HD.out.res 0).trans rfl
          have hf0 := blk_frozen HD.out.res 0
          have hz1 : World.cell? _ ⟨w.heap.size, 1, none⟩ = some (.int .i64 0) := (blk_cell HD.out.res 1).trans rfl
          have hf1 := blk_frozen HD.out.res 1
          have hz2 : World.cell? _ ⟨w.heap.size, 2, none⟩ = some (.int .i64 0) := (blk_cell HD.out.res 2).trans rfl
          have hf2 := blk_frozen HD.out.res 2
          have hz3 : World.cell? _ ⟨w.heap.size, 3, none⟩ = some (.string ⟨#[]⟩) := (blk_cell HD.out.res 3).trans rfl
          have hf3 := blk_frozen HD.out.res 3
          have hz4 : World.cell? _ ⟨w.heap.size, 4, none⟩ = some (.string ⟨#[]⟩) := (blk_cell HD.out.res 4).trans rfl
          have hf4 := blk_frozen HD.out.res 4
          have hz5 : World.cell? _ ⟨w.heap.size, 5, none⟩ = some (.slice none 0 0) := (blk_cell HD.out.res 5).trans rfl
          have hf5 := blk_frozen HD.out.res 5
          have hz6 : World.cell? _ ⟨w.heap.size, 6, none⟩ = some (.slice none 0 0) := (blk_cell HD.out.res 6).trans rfl
          have hf6 := blk_frozen HD.out.res 6
          go_step3
          refine ⟨rfl, ?_⟩
          go_wp2
          refine jump_ret ?_
          refine bodyPost_ret (results_ct rfl _ _ w.heap.size 50 #[.int .i64 0, .int .i64 0, .int .i64 0, .string (⟨#[]⟩ : ByteArray), .string (⟨#[]⟩ : ByteArray), .slice none 0 0, .slice none 0 0] (0, 0) _ rfl (put7 HD.out.res _ _ _ _ _ _ _) Try.underlying50 rfl (by kernel_rfl)) rfl ?_
          exact ⟨_, _, rfl, Kd.R_nil _ _ _ _ _, Kd.R_nil _ _ _ _ _, (puts7 _ _ _ _ _ _ _ _ _).below (Nat.le_refl _) HD.out.below⟩
        | true =>
          have HN2 : Aside0 (0 ≤ s7.1 ∧ s7.1 ≤ 64) := ⟨by have := HMB2.out; simpa using this⟩
          have HH3 : Aside0 (decU s1.1 s2.1 s3.1 (strOfNums s4.1) (strOfNums s5.1) args (dec_legs s7.1.toNat s7.2 []) = (r1, r2, r3, r4, r5, r6, r7, r8)) := ⟨by have := HH2.out; rwa [if_pos HN2.out] at this⟩
          obtain ⟨T2, hT2⟩ : ∃ T2, dec_legs s7.1.toNat s7.2 [] = T2 := ⟨_, rfl⟩
          have HT := Aside0.mk hT2
          rw [hT2] at HH3
          clear hT2 HH2
          go_wp2_with (first | (go_at_call 46; (with_reducible refine (many_e 64 H7.out HMB2.out _ HD.out.rd).mono ?_); rintro e w8 ⟨rfl, hr, hp⟩; have n_ := Aside0.mk (HD.out.puts hr hp); clear HD; have HD := n_; clear n_ hr hp))
          have n_ := Aside0.mk HD.out.split
          clear HD
          have HD := n_
          clear n_
          go_loopg [47] s7.1.toNat (fun kq v47 w' => ∃ (x47 : Int) (vl : Value) (legs : List S87) (s : List Int × Bool), v47 = .int .i64 x47 ∧ Aside0 (x47 + kq = s7.1 ∧ 0 ≤ x47 ∧ (legs.length : Int) = x47) ∧ Aside0 (dec_legs kq s legs = T2) ∧ Aside0 (DecS w w.heap.size gb (w.heap.size + 1) p s1.1 s2.1 s3.1 (strOfNums s4.1) (strOfNums s5.1) (fun k => some k = va.ownBlock) (fun k => gb < k ∧ some k ≠ va.ownBlock) va vl args legs s w'))
          case atStart => exact ⟨0, _, [], s7.2, rfl, ⟨by have := HN2.out; simp; omega⟩, HT, HD⟩
          case round =>
            clear HD HT
            obtain ⟨x47, vl, legs, s, rfl, HK2, HT, HD⟩ := hrel
            by_cases d2 : x47 < s7.1
            · have d2b : decide (x47 < s7.1) = true := decide_eq_true d2
              obtain ⟨k2, rfl⟩ : ∃ k2, gk = k2 + 1 := ⟨gk - 1, by have := HK2.out; omega⟩
              obtain ⟨st, hst⟩ : ∃ st, rInt s = st := ⟨_, rfl⟩
              obtain ⟨su, hsu⟩ : ∃ su, rInt st.2 = su := ⟨_, rfl⟩
              have HT2 : Aside0 (dec_legs k2 su.2 (legs ++ [⟨st.1, su.1⟩]) = T2) := ⟨by have := HT.out; rw [dec_legs, hst, hsu] at this; exact this⟩
              have HST := Aside0.mk hst
              have HSU := Aside0.mk hsu
              have HAL : Aside0 (legs.length ≤ 64) := ⟨by have := HK2.out; have := HN2.out; omega⟩
              have e47 : wrap64 (x47 + 1) = x47 + 1 := by have := HK2.out; have := HN2.out; unfold wrap64; omega
              clear d2 HT hst hsu
              go_upto_region 13 with (fail)
              refine start_ (n := 11) (S := fun w' => w'.cell? ⟨gb, 6, none⟩ = some vl) (ds := [10]) #[false, false, false, false, false, false, false, false, false, false, false] (by kernel_rfl) rfl rfl ((blk_cell (HD.out.go (below_drew (Below.refl _ _))).blk 6).trans rfl) (fun hHeld => ?_); refine with_tabW DecB.tab13 DecB.bits13 (fun HT_ HW_ => ?_)
              have n_ := Aside0.mk (HD.out.go (below_drew (Below.refl _ _)))
              clear HD
              have HD := n_
              clear n_
              generalize World.drew _ = wz at HD hHeld ⊢
              refine pure_ (i := 0) (N := some 49) (v := ?_) (a' := ?_) #[true, false, false, false, false, false, false, false, false, false, false] rfl rfl (any_of HT_.out (by kernel_rfl)) (fun _ _ _ h => h) (Or.inl ⟨by rfl, ?_⟩) ?_ ?_
              rotate_left
              · intro w'
                go_simp
                with_reducible rfl
              rotate_left
              · simp only [Act.put, List.setIfInBounds_toArray, List.set_cons_zero, List.set_cons_succ, i64_w, i32_w]
                rfl
              refine take_ (i := 1) (N := some 50) (v := ?_) (a' := ?_) #[true, true, false, false, false, false, false, false, false, false, false] rfl rfl (take_ofW HT_.out HW_.out (by kernel_rfl)) (fun _ _ _ h => h) (Or.inl ⟨by rfl, ?_⟩) hHeld ?_ ?_
              rotate_left
              · rintro w' hs_
                go_simp
                with_reducible rfl
              rotate_left
              · simp only [Act.put, List.setIfInBounds_toArray, List.set_cons_zero, List.set_cons_succ, i64_w, i32_w]
                rfl
              refine pure_ (i := 2) (N := some 51) (v := ?_) (a' := ?_) #[true, true, true, false, false, false, false, false, false, false, false] rfl rfl (any_of HT_.out (by kernel_rfl)) (fun _ _ _ h => h) (Or.inl ⟨by rfl, ?_⟩) ?_ ?_
              rotate_left
              · intro w'
                go_simp
                with_reducible rfl
              rotate_left
              · simp only [Act.put, List.setIfInBounds_toArray, List.set_cons_zero, List.set_cons_succ, i64_w, i32_w]
                rfl
              refine pure_ (i := 4) (N := some 53) (v := ?_) (a' := ?_) #[true, true, true, false, true, false, false, false, false, false, false] rfl rfl (any_of HT_.out (by kernel_rfl)) (fun _ _ _ h => h) (Or.inl ⟨by rfl, ?_⟩) ?_ ?_
              rotate_left
              · intro w'
                go_simp
                with_reducible rfl
              rotate_left
              · simp only [Act.put, List.setIfInBounds_toArray, List.set_cons_zero, List.set_cons_succ, i64_w, i32_w]
                rfl
              refine one_ (i := 3) (N := some 52) #[true, true, true, true, true, false, false, false, false, false, false] rfl rfl (one_of HT_.out (by kernel_rfl)) (by decide) (fun K hK => ?_)
              refine goes_ Try.func25 (by kernel_rfl) rfl #[.pointer (some ⟨p, 0, none⟩)] (by rfl) rfl rfl (by (try simp only [List.map_toArray, List.map_cons, List.map_nil]); first | done | rfl | (simp only [List.length_drop, List.length_take]; rfl)) ?_
              with_reducible refine (int_e HST.out _ HD.out.rd).mono ?_
              rintro e wq ⟨rfl, hr, hp⟩; have n_ := Aside0.mk (HD.out.puts hr hp); clear HD; have HD := n_; clear n_ hr hp
              refine ⟨_, rfl, ?_⟩
              refine hK.out _ _ ((blk_cell HD.out.blk 6).trans rfl) (fun hHeld => ?_)
              clear hK K
              refine norm_ (a' := ?_) ?_ ?_
              rotate_left
              · show Act.put _ (some 52) _ = _
                simp only [Act.put, List.setIfInBounds_toArray, List.set_cons_zero, List.set_cons_succ, i64_w, i32_w]
                rfl
              refine one_ (i := 5) (N := some 54) #[true, true, true, true, true, true, false, false, false, false, false] rfl rfl (one_of HT_.out (by kernel_rfl)) (by decide) (fun K hK => ?_)
              refine goes_ Try.func25 (by kernel_rfl) rfl #[.pointer (some ⟨p, 0, none⟩)] (by rfl) rfl rfl (by (try simp only [List.map_toArray, List.map_cons, List.map_nil]); first | done | rfl | (simp only [List.length_drop, List.length_take]; rfl)) ?_
              with_reducible refine (int_e HSU.out _ HD.out.rd).mono ?_
              rintro e wq2 ⟨rfl, hr, hp⟩; have n_ := Aside0.mk (HD.out.puts hr hp); clear HD; have HD := n_; clear n_ hr hp
              refine ⟨_, rfl, ?_⟩
              refine hK.out _ _ ((blk_cell HD.out.blk 6).trans rfl) (fun hHeld => ?_)
              clear hK K
              refine norm_ (a' := ?_) ?_ ?_
              rotate_left
              · show Act.put _ (some 54) _ = _
                simp only [Act.put, List.setIfInBounds_toArray, List.set_cons_zero, List.set_cons_succ, i64_w, i32_w]
                rfl
              refine pure_ (i := 6) (N := some 55) (v := ?_) (a' := ?_) #[true, true, true, true, true, true, true, false, false, false, false] rfl rfl (any_of HT_.out (by kernel_rfl)) (fun _ _ _ h => h) (Or.inl ⟨by rfl, ?_⟩) ?_ ?_
              rotate_left
              · intro w'
                go_simp
                with_reducible rfl
              rotate_left
              · simp only [Act.put, List.setIfInBounds_toArray, List.set_cons_zero, List.set_cons_succ, i64_w, i32_w]
                rfl
              refine one_ (i := 7) (N := some 56) #[true, true, true, true, true, true, true, true, false, false, false] rfl rfl (one_of HT_.out (by kernel_rfl)) (by decide) (fun K hK => ?_)
              refine Kd.R_lit_step k87 _ 87 ?hg (N := 56) ?hd (xs := ([(⟨st.1, su.1⟩ : S87)] : List S87)) (inner := [.int .i64 st.1, .int .i64 su.1]) (ok := fun _ => True) (okp := fun _ => True) ?hr ?hp (fun _ hk => hk) trivial (Below.refl _ _) (Nat.le_refl _) (by simp) ?_; (case hd => rfl); (case hg => rfl); (case hr => first | (go_simp; done) | (go_simp; rfl)); (case hp => exact (Reps.c2 (show Kd.M k87 _ _ _ (⟨st.1, su.1⟩ : S87) [.int .i64 st.1, .int .i64 su.1] from (k87_mkM _ _ _ (⟨st.1, su.1⟩ : S87))) (Reps.none _ _)))
              intro v2 w2 ho2 hb2 hg_ hnew_
              clear hg_ hnew_
              have n_ := Aside0.mk (HD.out.go hb2)
              clear HD
              have HD := n_
              clear n_
              obtain ⟨A2, c2, e2, hc2, hC2⟩ := Kd.R_reads ho2
              subst e2
              have HC2 := Aside0.mk hC2
              clear hb2 ho2 hC2 hc2
              refine hK.out _ _ ((blk_cell HD.out.blk 6).trans rfl) (fun hHeld => ?_)
              clear hK K
              refine norm_ (a' := ?_) ?_ ?_
              rotate_left
              · show Act.put _ (some 56) _ = _
                simp only [Act.put, List.setIfInBounds_toArray, List.set_cons_zero, List.set_cons_succ, i64_w, i32_w]
                rfl
              refine one_ (i := 8) (N := some 57) #[true, true, true, true, true, true, true, true, true, false, false] rfl rfl (one_of HT_.out (by kernel_rfl)) (by decide) (fun K hK => ?_)
              refine Kd.R_append_rows_step k87 (w0 := w) w.heap.size (by rfl) (.tmp 50) (.tmp 56) 48 87 (.agg #[(.int .i64 0), (.int .i64 0)]) 16 rfl Try.underlying48 info87 rfl (by decide) (by omega) vl legs ([(⟨st.1, su.1⟩ : S87)] : List S87) _ _ _ (fun k => gb < k ∧ some k ≠ va.ownBlock) (fun _ => False) rfl rfl ?aO ?aR (fun _ _ h => h) (fun _ h => h.elim) ?aF ?aB ?aS ?aL ?_
              (case aR => exact HC2.out)
              (case aB => exact HD.out.below)
              (case aF => exact (fun k_ hk => ⟨by have := blk_lt HD.out.blk; omega, fun e_ => by have := Kd.R_lt HD.out.oa k_ e_.symm; omega⟩))
              (case aO => exact HD.out.ol)
              (case aS => exact below_size HD.out.below)
              (case aL => have := HAL.out; simp; omega)
              intro v3 w3 ho hb hg hat
              have BK3 := Aside0.mk (blk_grown HD.out.blk hg (fun e_ => by have := HD.out.hl _ (HD.out.ol.1 _ e_.symm); omega))
              have HO3 := Aside0.mk ho
              have HB3 := Aside0.mk hb
              have HG3 := Aside0.mk hg
              clear ho hb hg hat
              obtain ⟨A3, cc3, e3⟩ := Kd.R_slice HO3.out
              subst e3
              refine hK.out _ _ ((blk_cell BK3.out 6).trans rfl) (fun hHeld => ?_)
              clear hK K
              refine norm_ (a' := ?_) ?_ ?_
              rotate_left
              · show Act.put _ (some 57) _ = _
                simp only [Act.put, List.setIfInBounds_toArray, List.set_cons_zero, List.set_cons_succ, i64_w, i32_w]
                rfl
              refine pure_ (i := 9) (N := some 58) (v := ?_) (a' := ?_) #[true, true, true, true, true, true, true, true, true, true, false] rfl rfl (any_of HT_.out (by kernel_rfl)) (fun _ _ _ h => h) (Or.inl ⟨by rfl, ?_⟩) ?_ ?_
              rotate_left
              · intro w'
                go_simp
                with_reducible rfl
              rotate_left
              · simp only [Act.put, List.setIfInBounds_toArray, List.set_cons_zero, List.set_cons_succ, i64_w, i32_w]
                rfl
              refine last_ (i := 10) (N := none) #[true, true, true, true, true, true, true, true, true, true, true] rfl rfl (one_of HT_.out (by kernel_rfl)) (by decide) (fun K hK => ?_)
              have hcl : w3.cell? ⟨gb, 6, none⟩ = some vl := (blk_cell BK3.out 6).trans rfl
              have hfr := blk_frozen BK3.out 6
              refine skip_ (w1 := ?_) (by rfl) rfl ?_ ?_
              rotate_left
              · go_simp
                rfl
              refine hK.out _ _ ?_
              clear hK K
              refine done_ (done_of HT_.out (by kernel_rfl)) ?_
              try go_wp2
              have ho3 := HO3.out
              rw [show (legs ++ [(⟨st.1, su.1⟩ : S87)]).length = legs.length + 1 by simp] at ho3
              go_roundg k2
              case measure => omega
              case rel => exact ⟨x47 + 1, _, legs ++ [⟨st.1, su.1⟩], su.2, by rw [e47], ⟨by have := HK2.out; simp; omega⟩, HT2, ⟨HD.out.setL HG3.out ho3 HB3.out (fun k h1 h2 => h1.2 h2)⟩⟩
            · have d2b : decide (x47 < s7.1) = false := decide_eq_false d2
              have hk0 : gk = 0 := by have := HK2.out; omega
              subst hk0
              have HH4 : Aside0 ((if rEnd s = true then (s1.1, s2.1, s3.1, strOfNums s4.1, strOfNums s5.1, args, legs, 0) else decBad) = (r1, r2, r3, r4, r5, r6, r7, r8)) := ⟨by have := HH3.out; rw [← HT.out] at this; exact this⟩
              clear HT HH3 d2
              obtain ⟨eb, heb⟩ : ∃ eb, rEnd s = eb := ⟨_, rfl⟩
              rw [heb] at HH4
              have HE := Aside0.mk heb
              clear heb
              cases eb with
              | false =>
                have HBAD : Aside0 (decBad = (r1, r2, r3, r4, r5, r6, r7, r8)) := ⟨by have := HH4.out; rwa [if_neg (by simp)] at this⟩
                have HX := HBAD.out
                simp only [decBad, Prod.mk.injEq] at HX
                obtain ⟨rfl, rfl, rfl, rfl, rfl, rfl, rfl, rfl⟩ := HX
                clear HBAD
                have hz0 : World.cell? _ ⟨w.heap.size, 0, none⟩ = some (.int .i64 0) := (blk_cell HD.out.res 0).trans rfl
                have hf0 := blk_frozen HD.out.res 0
                have hz1 : World.cell? _ ⟨w.heap.size, 1, none⟩ = some (.int .i64 0) := (blk_cell HD.out.res 1).trans rfl
                have hf1 := blk_frozen HD.out.res 1
                have hz2 : World.cell? _ ⟨w.heap.size, 2, none⟩ = some (.int .i64 0) := (blk_cell HD.out.res 2).trans rfl
                have hf2 := blk_frozen HD.out.res 2
                have hz3 : World.cell? _ ⟨w.heap.size, 3, none⟩ = some (.string ⟨#[]⟩) := (blk_cell HD.out.res 3).trans rfl
                have hf3 := blk_frozen HD.out.res 3
                have hz4 : World.cell? _ ⟨w.heap.size, 4, none⟩ = some (.string ⟨#[]⟩) := (blk_cell HD.out.res 4).trans rfl
                have hf4 := blk_frozen HD.out.res 4
                have hz5 : World.cell? _ ⟨w.heap.size, 5, none⟩ = some (.slice none 0 0) := (blk_cell HD.out.res 5).trans rfl
                have hf5 := blk_frozen HD.out.res 5
                have hz6 : World.cell? _ ⟨w.heap.size, 6, none⟩ = some (.slice none 0 0) := (blk_cell HD.out.res 6).trans rfl
                have hf6 := blk_frozen HD.out.res 6
                go_wp2_with (first | (go_at_call 26; (with_reducible refine (end_e HE.out _ HD.out.rd).mono ?_); rintro e w9 ⟨rfl, rfl⟩))
                go_step3
                go_wp2
                refine jump_ret ?_
                refine bodyPost_ret (results_ct rfl _ _ w.heap.size 50 #[.int .i64 0, .int .i64 0, .int .i64 0, .string (⟨#[]⟩ : ByteArray), .string (⟨#[]⟩ : ByteArray), .slice none 0 0, .slice none 0 0] (0, 0) _ rfl (put7 HD.out.res _ _ _ _ _ _ _) Try.underlying50 rfl (by kernel_rfl)) rfl ?_
                exact ⟨_, _, rfl, Kd.R_nil _ _ _ _ _, Kd.R_nil _ _ _ _ _, (puts7 _ _ _ _ _ _ _ _ _).below (Nat.le_refl _) HD.out.below⟩
              | true =>
                have HX := HH4.out
                rw [if_pos rfl] at HX
                simp only [Prod.mk.injEq] at HX
                obtain ⟨rfl, rfl, rfl, rfl, rfl, rfl, rfl, rfl⟩ := HX
                clear HH4
                obtain ⟨Aa, ca, ea⟩ := Kd.R_slice HD.out.oa
                subst ea
                obtain ⟨Al, cl, el⟩ := Kd.R_slice HD.out.ol
                subst el
                have hz0 : World.cell? _ ⟨w.heap.size, 0, none⟩ = some (.int .i64 0) := (blk_cell HD.out.res 0).trans rfl
                have hf0 := blk_frozen HD.out.res 0
                have hz1 : World.cell? _ ⟨w.heap.size, 1, none⟩ = some (.int .i64 0) := (blk_cell HD.out.res 1).trans rfl
                have hf1 := blk_frozen HD.out.res 1
                have hz2 : World.cell? _ ⟨w.heap.size, 2, none⟩ = some (.int .i64 0) := (blk_cell HD.out.res 2).trans rfl
                have hf2 := blk_frozen HD.out.res 2
                have hz3 : World.cell? _ ⟨w.heap.size, 3, none⟩ = some (.string ⟨#[]⟩) := (blk_cell HD.out.res 3).trans rfl
                have hf3 := blk_frozen HD.out.res 3
                have hz4 : World.cell? _ ⟨w.heap.size, 4, none⟩ = some (.string ⟨#[]⟩) := (blk_cell HD.out.res 4).trans rfl
                have hf4 := blk_frozen HD.out.res 4
                have hz5 : World.cell? _ ⟨w.heap.size, 5, none⟩ = some (.slice none 0 0) := (blk_cell HD.out.res 5).trans rfl
                have hf5 := blk_frozen HD.out.res 5
                have hz6 : World.cell? _ ⟨w.heap.size, 6, none⟩ = some (.slice none 0 0) := (blk_cell HD.out.res 6).trans rfl
                have hf6 := blk_frozen HD.out.res 6
                have hy0 : World.cell? _ ⟨gb, 0, none⟩ = some (.int .i64 s1.1) := (blk_cell HD.out.blk 0).trans rfl
                have hv0 := blk_frozen HD.out.blk 0
                have hy1 : World.cell? _ ⟨gb, 1, none⟩ = some (.int .i64 s2.1) := (blk_cell HD.out.blk 1).trans rfl
                have hv1 := blk_frozen HD.out.blk 1
                have hy2 : World.cell? _ ⟨gb, 2, none⟩ = some (.int .i64 s3.1) := (blk_cell HD.out.blk 2).trans rfl
                have hv2 := blk_frozen HD.out.blk 2
                have hy3 : World.cell? _ ⟨gb, 3, none⟩ = some (.string (strOfNums s4.1)) := (blk_cell HD.out.blk 3).trans rfl
                have hv3 := blk_frozen HD.out.blk 3
                have hy4 : World.cell? _ ⟨gb, 4, none⟩ = some (.string (strOfNums s5.1)) := (blk_cell HD.out.blk 4).trans rfl
                have hv4 := blk_frozen HD.out.blk 4
                have hy5 : World.cell? _ ⟨gb, 5, none⟩ = some (.slice Aa args.length ca) := (blk_cell HD.out.blk 5).trans rfl
                have hv5 := blk_frozen HD.out.blk 5
                have hy6 : World.cell? _ ⟨gb, 6, none⟩ = some (.slice Al legs.length cl) := (blk_cell HD.out.blk 6).trans rfl
                have hv6 := blk_frozen HD.out.blk 6
                go_wp2_with (first | (go_at_call 26; (with_reducible refine (end_e HE.out _ HD.out.rd).mono ?_); rintro e w9 ⟨rfl, rfl⟩))
                have hput := put7 HD.out.res (.int .i64 s1.1) (.int .i64 s2.1) (.int .i64 s3.1) (.string (strOfNums s4.1)) (.string (strOfNums s5.1)) (.slice Aa args.length ca) (.slice Al legs.length cl)
                have hpu := puts7 w9 w.heap.size (.int .i64 s1.1) (.int .i64 s2.1) (.int .i64 s3.1) (.string (strOfNums s4.1)) (.string (strOfNums s5.1)) (.slice Aa args.length ca) (.slice Al legs.length cl)
                generalize (((((((w9.setCell ⟨w.heap.size, 0, none⟩ (.int .i64 s1.1)).setCell ⟨w.heap.size, 1, none⟩ (.int .i64 s2.1)).setCell ⟨w.heap.size, 2, none⟩ (.int .i64 s3.1)).setCell ⟨w.heap.size, 3, none⟩ (.string (strOfNums s4.1))).setCell ⟨w.heap.size, 4, none⟩ (.string (strOfNums s5.1))).setCell ⟨w.heap.size, 5, none⟩ (.slice Aa args.length ca)).setCell ⟨w.heap.size, 6, none⟩ (.slice Al legs.length cl)) = wz at hput hpu ⊢
                refine jump_ret ?_
                refine bodyPost_ret (results_ct rfl _ wz w.heap.size 50 #[.int .i64 s1.1, .int .i64 s2.1, .int .i64 s3.1, .string (strOfNums s4.1), .string (strOfNums s5.1), .slice Aa args.length ca, .slice Al legs.length cl] (0, 0) _ rfl hput Try.underlying50 rfl (by kernel_rfl)) rfl ?_
                have hlo := HD.out.lo
                have hk := (hpu 0 (Nat.zero_le _)).2.2
                exact ⟨_, _, rfl, Kd.R_mono (Kd.R_step HD.out.oa (fun k ho _ => hk k (by have := HD.out.ha k ho; omega))) (fun _ _ => trivial), Kd.R_mono (Kd.R_step HD.out.ol (fun k ho _ => hk k (by have := HD.out.hl k ho; omega))) (fun _ _ => trivial), hpu.below (Nat.le_refl _) HD.out.below⟩
def entry_Decode.f (l0 : List Int) : Option (Int × Int × Int × ByteArray × ByteArray × List Int × List S87 × Int) := if l0.length < 140737488355328 ∧ ∀ x ∈ l0, 0 ≤ x ∧ x ≤ 255 then some (decF l0) else none
theorem entry_Decode.calls (A0 : Option Addr) (c0 : Nat) (l0 : List Int) (r1 : Int) (r2 : Int) (r3 : Int) (r4 : ByteArray) (r5 : ByteArray) (r6 : List Int) (r7 : List (S87)) (r8 : Int) (w : World) (hr0 : Kd.C (Kd.int .u8) w A0 l0.length l0) (hc0 : l0.length ≤ c0) (h : entry_Decode.f l0 = some (r1, r2, r3, r4, r5, r6, r7, r8)) :
    Calls Try.prog 30 #[.slice A0 l0.length c0] w fun e w' => ∃ v5_ v6_ : Value, e = .returned (.tuple #[.agg #[.int .i64 r1, .int .i64 r2, .int .i64 r3, .string r4, .string r5, v5_, v6_], .int .i64 r8]) ∧ Kd.R (Kd.int .i64) 3 w' w.heap.size (fun _ => True) v5_ r6 ∧ Kd.R k87 87 w' w.heap.size (fun _ => True) v6_ r7 ∧ Below w.heap.size w w' := by
  unfold entry_Decode.f at h
  have hc : l0.length < 140737488355328 ∧ ∀ x ∈ l0, 0 ≤ x ∧ x ≤ 255 := Decidable.byContradiction fun c => by rw [if_neg c] at h; simp at h
  rw [if_pos hc] at h
  exact entry_Decode.at_ A0 c0 l0 w hr0 hc0 hc.2 hc.1 r1 r2 r3 r4 r5 r6 r7 r8 (Option.some.inj h)
end Go.Proofs.Ytjmkpcnekghmhaa.PAll
end
