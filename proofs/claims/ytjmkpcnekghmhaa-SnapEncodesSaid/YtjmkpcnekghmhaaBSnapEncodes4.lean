/- Words, plain functions and contracts of the functions that the law of this claim reaches; no conditions. -/
import Derived.Test.YtjmkpcnekghmhaaBSnapEncodes3
section
namespace Go.Proofs.Ytjmkpcnekghmhaa.PAll
open Go.RowKit Go.Proofs.YtjmkpcnekghmhaaW.PrintWords Go.Proofs.YtjmkpcnekghmhaaW.PrintLast Go.Proofs.YtjmkpcnekghmhaaW.PrintMore
attribute [local go_sem] max2_int min2_int max_two min_two max_three min_three max_four min_four   -- for this text's walks alone
set_option linter.unusedVariables false
set_option linter.unusedSimpArgs false

structure Ch (S : Nat → Prop) (W W1 : World) : Prop where
 os : W1.os = W.os
 tape : W1.tape = W.tape
 output : W1.output = W.output
 size : W.heap.size ≤ W1.heap.size
 block : ∀ k, k < W.heap.size → ¬ S k → W1.heap[k]? = W.heap[k]?
section
variable {S T : Nat → Prop} {w W W1 W2 : World}
theorem Ch.refl (S : Nat → Prop) (W : World) : Ch S W W := ⟨rfl, rfl, rfl, Nat.le_refl _, fun _ _ _ => rfl⟩
theorem Ch.trans (h : Ch S W W1) (k : Ch T W1 W2) (hT : ∀ i, i < W.heap.size → T i → S i) : Ch S W W2 :=
 ⟨k.os.trans h.os, k.tape.trans h.tape, k.output.trans h.output, Nat.le_trans h.size k.size, fun i hi hS => (k.block i (Nat.lt_of_lt_of_le hi h.size) (fun ht => hS (hT i hi ht))).trans (h.block i hi hS)⟩
theorem Ch.of_below (hb : Below W.heap.size W W1) : Ch S W W1 := ⟨hb.os, hb.tape, hb.output, hb.size, fun k hk _ => hb.block k hk⟩
theorem Ch.set (W : World) {g : Nat} (j : Nat) (v : Value) (hS : S g) : Ch S W (W.setCell ⟨g, j, none⟩ v) :=
 ⟨rfl, rfl, rfl, by simp [World.setCell], fun k _ hk => Below.heap_setCell W _ v k (fun e => hk (by rw [e]; exact hS))⟩
theorem Ch.of_puts {p : Nat} (hp : Puts p W W1) (hS : S p) : Ch S W W1 := by
 have h := hp 0 (Nat.zero_le _)
 have hb := h.1 W (Below.refl 0 W)
 exact ⟨hb.os, hb.tape, hb.output, hb.size, fun k _ hk => h.2.2 k (fun e => hk (by rw [e]; exact hS))⟩
theorem Ch.of_grown {row : Option Nat} (hg : W.grownBy W1 row) (hS : ∀ k, row = some k → S k) : Ch S W W1 :=
 ⟨hg.os, hg.tape, hg.output, hg.size, fun k hk hn => hg.block k hk (fun e => hn (hS k e.symm))⟩
theorem Ch.below (h : Ch S W W1) (hb : Below w.heap.size w W) (hS : ∀ k, S k → w.heap.size ≤ k) : Below w.heap.size w W1 :=
 hb.trans ⟨h.os, h.tape, h.output, h.size, fun k hk => h.block k (Nat.lt_of_lt_of_le hk hb.size) (fun hs => by have := hS k hs; omega)⟩
theorem Ch.mono (h : Ch S W W1) (hS : ∀ k, S k → T k) : Ch T W W1 := ⟨h.os, h.tape, h.output, h.size, fun k hk hn => h.block k hk (fun hs => hn (hS k hs))⟩
theorem Ch.keep (h : Ch S W W1) {k : Nat} {o : Obj} (hk : W.heap[k]? = some o) (hS : ¬ S k) : W1.heap[k]? = some o := (h.block k (blk_lt hk) hS).trans hk
end
structure SR (base p q : Nat) (s : (List Int × Bool) × Bool) (W : World) : Prop where
 rd : Rdr base p s.1.1 s.1.2 W
 rq : W.heap[q]? = some (.cells #[.pointer (some ⟨p, 0, none⟩), .bool s.2] 106 (0, 0))
 lo : base ≤ p ∧ p < q
theorem SR.ch {S : Nat → Prop} {base p q : Nat} {s : (List Int × Bool) × Bool} {W W1 : World} (h : SR base p q s W) (hc : Ch S W W1) (hS : ∀ k, S k → q < k) : SR base p q s W1 := by
 have hlo := h.lo
 obtain ⟨A, c, h1, h2, h3, h4, h5⟩ := h.rd.ex
 have hp := blk_lt h1
 refine ⟨⟨⟨A, c, hc.keep h1 (fun hs => by have := hS _ hs; omega), h2, h3, C_same h4 (fun ad ha => hc.block _ (by have := (h5 ad ha).2; omega) (fun hs => by have := hS _ hs; have := (h5 ad ha).2; omega)), h5⟩, h.rd.by_⟩, hc.keep h.rq (fun hs => by have := hS _ hs; omega), hlo⟩
theorem SR.puts {base p q : Nat} {s : (List Int × Bool) × Bool} {s1 : List Int × Bool} {W W1 : World} (h : SR base p q s W) (hr : Rdr base p s1.1 s1.2 W1) (hp : Puts p W W1) : SR base p q (s1, s.2) W1 :=
 ⟨hr, ((hp 0 (Nat.zero_le _)).2.2 q (by have := h.lo; omega)).trans h.rq, h.lo⟩
theorem SR.below {base p q : Nat} {s : (List Int × Bool) × Bool} {W W1 : World} (h : SR base p q s W) (hb : Below W.heap.size W W1) : SR base p q s W1 := h.ch (S := fun _ => False) (Ch.of_below hb) (fun _ h => h.elim)
theorem SR.setq {base p q : Nat} {s : (List Int × Bool) × Bool} {W : World} (h : SR base p q s W) (b : Bool) : SR base p q (s.1, b) (W.setCell ⟨q, 1, none⟩ (.bool b)) := by
 have hlo := h.lo
 obtain ⟨A, c, h1, h2, h3, h4, h5⟩ := h.rd.ex
 exact ⟨⟨⟨A, c, (Below.heap_setCell W _ _ p (show p ≠ q by omega)).trans h1, h2, h3, C_same h4 (fun ad ha => Below.heap_setCell W _ _ _ (by have := (h5 ad ha).2; show ad.block ≠ q; omega)), h5⟩, h.rd.by_⟩, blk_put h.rq 1 _ rfl, hlo⟩
theorem SR.lt {base p q : Nat} {s : (List Int × Bool) × Bool} {W : World} (h : SR base p q s W) : q < W.heap.size := blk_lt h.rq
theorem SR.q0 {base p q : Nat} {s : (List Int × Bool) × Bool} {W : World} (h : SR base p q s W) : W.cell? ⟨q, 0, none⟩ = some (.pointer (some ⟨p, 0, none⟩)) := (blk_cell h.rq 0).trans rfl
theorem SR.q1 {base p q : Nat} {s : (List Int × Bool) × Bool} {W : World} (h : SR base p q s W) : W.cell? ⟨q, 1, none⟩ = some (.bool s.2) := (blk_cell h.rq 1).trans rfl
def rInts : Nat → (List Int × Bool) → List Int × (List Int × Bool)
 | 0, s => ([], s)
 | n + 1, s => ((rInt s).1 :: (rInts n (rInt s).2).1, (rInts n (rInt s).2).2)
def putN (arr : Array Value) (o : Nat) : List Int → Array Value
 | [] => arr
 | y :: ys => putN (arr.setIfInBounds o (.int .i64 y)) (o + 1) ys
theorem int_s {base p : Nat} {s : List Int × Bool} {st : Int × (List Int × Bool)} (hs : rInt s = st) (W : World) (h : Rdr base p s.1 s.2 W) : Calls Try.prog 25 #[.pointer (some ⟨p, 0, none⟩)] W fun e W' => e = .returned (.int .i64 st.1) ∧ Rdr base p st.2.1 st.2.2 W' ∧ Puts p W W' := by
 subst hs; exact int_f s W h
theorem text_s {base p : Nat} {s : List Int × Bool} {st : List Int × (List Int × Bool)} (hs : rText s 16 = st) (W : World) (h : Rdr base p s.1 s.2 W) : Calls Try.prog 23 #[.pointer (some ⟨p, 0, none⟩), .int .i64 16] W fun e W' => e = .returned (.string (strOfNums st.1)) ∧ Rdr base p st.2.1 st.2.2 W' ∧ Puts p W W' := by
 subst hs; exact text_f s 16 W h
theorem end_s {base p : Nat} {s : List Int × Bool} {eb : Bool} (he : rEnd s = eb) (W : World) (h : Rdr base p s.1 s.2 W) : Calls Try.prog 26 #[.pointer (some ⟨p, 0, none⟩)] W fun e W' => e = .returned (.bool eb) ∧ W' = W := by
 subst he; exact end_f s W h
set_option maxHeartbeats 4000000 in
theorem get_f {base p q g t n o : Nat} {ty : TypeId} {arr tarr : Array Value} (s : (List Int × Bool) × Bool) (W : World) (h : SR base p q s W) (hqg : q < g) (hgt : g ≠ t) (hqt : q < t) (hg : W.heap[g]? = some (.cells arr ty (0, 0))) (ht : W.heap[t]? = some (.cells tarr 108 (0, 0))) (hp : ∀ i, i < n → tarr[i]? = some (.pointer (some ⟨g, o + i, none⟩))) (ha : o + n ≤ arr.size) (hm : n ≤ 100) :
  Calls Try.prog 52 #[.pointer (some ⟨q, 0, none⟩), .slice (some ⟨t, 0, none⟩) n n] W fun e W' => e = .returned (.tuple #[]) ∧ W'.heap[g]? = some (.cells (putN arr o (rInts n s.1).1) ty (0, 0)) ∧ SR base p q ((rInts n s.1).2, s.2) W' ∧ Ch (fun k => k = p ∨ k = g) W W' := by
 obtain ⟨F, hF⟩ : ∃ F, rInts n s.1 = F := ⟨_, rfl⟩
 have HF := Aside0.mk hF
 have HS := Aside0.mk h
 have HG := Aside0.mk hg
 have HT := Aside0.mk ht
 have HP := Aside0.mk hp
 have HA := Aside0.mk ha
 have HM := Aside0.mk hm
 have HL : Aside0 (q < g ∧ g ≠ t ∧ q < t) := ⟨⟨hqg, hgt, hqt⟩⟩
 rw [hF]
 clear h; clear hg; clear ht; clear hp; clear ha; clear hqg; clear hgt; clear hqt; clear hF; clear hm
 go_enter Try.func52, Try.ntmps52
 go_wp2
 go_loopg [8] n (fun kq v8 w' => ∃ (x8 : Int) (i : Nat) (ar : Array Value) (si : List Int × Bool), v8 = .int .i64 x8 ∧ Aside0 (x8 = (i : Int) ∧ i + kq = n ∧ ar.size = arr.size) ∧ Aside0 (w'.heap[g]? = some (.cells ar ty (0, 0))) ∧ Aside0 (putN ar (o + i) (rInts kq si).1 = putN arr o F.1 ∧ (rInts kq si).2 = F.2) ∧ Aside0 (SR base p q (si, s.2) w') ∧ Aside0 (Ch (fun k => k = p ∨ k = g) W w'))
 case atStart => exact ⟨0, 0, arr, s.1, rfl, ⟨rfl, by omega, rfl⟩, HG, ⟨by rw [HF.out]; exact ⟨rfl, rfl⟩⟩, HS, ⟨Ch.refl _ _⟩⟩
 case round =>
  obtain ⟨x8, i, ar, si, rfl, HI, HAR, HE, HSI, HCH⟩ := hrel
  by_cases d1 : x8 < (n : Int)
  ·have d1b : decide (x8 < (n : Int)) = true := decide_eq_true d1
   obtain ⟨k1, rfl⟩ : ∃ k1, gk = k1 + 1 := ⟨gk - 1, by have := HI.out; omega⟩
   obtain ⟨st, hst⟩ : ∃ st, rInt si = st := ⟨_, rfl⟩
   have HST := Aside0.mk hst
   have hi : x8.toNat = i := by have := HI.out; omega
   have hlt : i < n := by have := HI.out; omega
   have hpt : wr.cell? ⟨t, x8.toNat, none⟩ = some (.pointer (some ⟨g, o + i, none⟩)) := by
    have hk := HCH.out.keep HT.out (by rintro (h | h) <;> (have := HL.out; have := HSI.out.lo; omega))
    rw [blk_cell hk, hi]; exact HP.out i hlt
   have p1 := eq_true (show 0 ≤ x8 by have := HI.out; omega)
   have q1 := eq_true d1
   have e8 : wrap64 (x8 + 1) = x8 + 1 := by have := HI.out; have := HM.out; unfold wrap64; omega
   have hq0 := HSI.out.q0
   have HLT := Aside0.mk hlt
   clear d1; clear hst; clear hi; clear hlt
   go_wp2_with (first | (go_at_call 25; (with_reducible refine (int_s HST.out _ HSI.out.rd).mono ?_); rintro e w1 ⟨rfl, hr, hp⟩; have S1 := Aside0.mk (HSI.out.puts hr hp); have C1 := Aside0.mk (HCH.out.trans (Ch.of_puts (S := fun k => k = p ∨ k = g) hp (Or.inl rfl)) (fun _ _ h => h)); have G1 := Aside0.mk (((hp 0 (Nat.zero_le _)).2.2 g (by have := HL.out; have := HSI.out.lo; omega)).trans HAR.out); have hgz := Aside0.mk (blk_cell G1.out (o + i)); have hgf := blk_frozen G1.out (o + i); obtain ⟨z, hz⟩ : ∃ z, World.cell? w1 ⟨g, o + i, none⟩ = some z := ⟨_, hgz.out.trans (Array.getElem?_eq_getElem (by have := HI.out; have := HA.out; have := HLT.out; omega))⟩; clear hr hp hgz))
   go_roundg k1
   case measure => omega
   case rel => exact ⟨x8 + 1, i + 1, _, st.2, by rw [e8], ⟨by have := HI.out; simp; omega⟩, ⟨blk_put G1.out (o + i) _ rfl⟩, ⟨by have := HE.out; simp only [rInts, HST.out, putN] at this; exact this⟩, ⟨S1.out.ch (Ch.set (S := fun k => k = g) _ _ _ rfl) (fun k hk => by have := HL.out; omega)⟩, ⟨C1.out.trans (Ch.set (S := fun k => k = g) _ _ _ rfl) (fun _ _ h => Or.inr h)⟩⟩
  ·have d1b : decide (x8 < (n : Int)) = false := decide_eq_false d1
   have hk0 : gk = 0 := by have := HI.out; omega
   subst hk0
   clear d1
   go_wp2
   go_end0
   have he := HE.out
   refine ⟨rfl, ?_, ?_, HCH.out⟩
   ·rw [← he.1]; exact HAR.out
   ·rw [← he.2]; exact HSI.out
theorem ptrs_step {P : Program} {ops : Array Oper} {o : Oper} {a : Act} {Q : Exit → Act → World → Prop} {Kc : Act → World → Prop} {W : World} (hw : Region.wanted o (yielded ops a.tmps) = true) {N : Tmp} (_hd : o.dst = some N) {cells : Array Value} {n : Nat}
  (hrun : (execOp a.eval o).run P W = .ok (.value (.slice (some ⟨W.heap.size, 0, none⟩) n n)) (W.alloc (.cells cells 108)))
  (h : ∀ t, t = W.heap.size → ∀ w1, w1.heap[t]? = some (.cells cells 108 (0, 0)) → Below W.heap.size W w1 → Kc (a.put o.dst (.slice (some ⟨t, 0, none⟩) n n)) w1) : if Region.wanted o (yielded ops a.tmps) = true then Oper.wp P o a W Kc Q else Kc (a.put o.dst undef) W :=
 event_step hw hrun (h _ rfl _ (blk_new W _) (below_alloc (Below.refl _ _) _))
structure One (base p q c g : Nat) (cells : Array Value) (ty : TypeId) (s : (List Int × Bool) × Bool) (W : World) : Prop where
 sr : SR base p q s W
 cap : W.heap[c]? = some (.cells #[.pointer (some ⟨q, 0, none⟩)] 104 (0, 0))
 blk : W.heap[g]? = some (.cells cells ty (0, 0))
 lo : q < c ∧ q < g ∧ g ≠ c
theorem One.ch {S : Nat → Prop} {base p q c g : Nat} {cells : Array Value} {ty : TypeId} {s : (List Int × Bool) × Bool} {W W1 : World} (h : One base p q c g cells ty s W) (hc : Ch S W W1) (hS : ∀ k, S k → q < k ∧ k ≠ c ∧ k ≠ g) : One base p q c g cells ty s W1 :=
 ⟨h.sr.ch hc (fun k hk => (hS k hk).1), hc.keep h.cap (fun hk => (hS _ hk).2.1 rfl), hc.keep h.blk (fun hk => (hS _ hk).2.2 rfl), h.lo⟩
theorem One.go {base p q c g : Nat} {cells : Array Value} {ty : TypeId} {s : (List Int × Bool) × Bool} {W W1 : World} (h : One base p q c g cells ty s W) (hb : Below W.heap.size W W1) : One base p q c g cells ty s W1 :=
 h.ch (S := fun _ => False) (Ch.of_below hb) (fun _ h => h.elim)
theorem One.put {base p q c g : Nat} {cells cells' : Array Value} {ty : TypeId} {s : (List Int × Bool) × Bool} {W : World} (h : One base p q c g cells ty s W) (j : Nat) (v : Value) (he : cells.setIfInBounds j v = cells') : One base p q c g cells' ty s (W.setCell ⟨g, j, none⟩ v) :=
 ⟨h.sr.ch (Ch.set (S := fun k => k = g) W j v rfl) (fun k hk => by have := h.lo; omega), (Below.heap_setCell W _ v c (fun e => h.lo.2.2 e.symm)).trans h.cap, blk_put h.blk j v he, h.lo⟩
theorem One.puts {base p q c g : Nat} {cells : Array Value} {ty : TypeId} {s : (List Int × Bool) × Bool} {s1 : List Int × Bool} {W W1 : World} (h : One base p q c g cells ty s W) (hr : Rdr base p s1.1 s1.2 W1) (hp : Puts p W W1) : One base p q c g cells ty (s1, s.2) W1 :=
 ⟨h.sr.puts hr hp, ((hp 0 (Nat.zero_le _)).2.2 c (by have := h.lo; have := h.sr.lo; omega)).trans h.cap, ((hp 0 (Nat.zero_le _)).2.2 g (by have := h.lo; have := h.sr.lo; omega)).trans h.blk, h.lo⟩
theorem One.c0 {base p q c g : Nat} {cells : Array Value} {ty : TypeId} {s : (List Int × Bool) × Bool} {W : World} (h : One base p q c g cells ty s W) : W.cell? ⟨c, 0, none⟩ = some (.pointer (some ⟨q, 0, none⟩)) := (blk_cell h.cap 0).trans rfl

def One56.T0 : Bool × List (List Nat × List Nat) := (true, [([], []), ([], []), ([1], [1]), ([2], [2]), ([], []), ([4], [4]), ([5], [5]), ([], []), ([7], [7]), ([8], [8]), ([], []), ([10], [10]), ([11], [11]), ([], []), ([13], [13]), ([14], [14]), ([], []), ([16], [16]), ([17], [17]), ([3, 6, 9, 12, 15, 18], [3, 6, 9, 12, 15, 18]), ([0, 19], [0, 19])])
def One56.B0 : List Nat := [0, 0, 2, 6, 0, 16, 48, 0, 128, 384, 0, 1024, 3072, 0, 8192, 24576, 0, 65536, 196608, 524286, 1048575]
theorem One56.tab0 : rtab .any (opsOf Try.f56 0) = One56.T0 := by kernel_rfl
theorem One56.bits0 : waitsOk One56.T0.2 One56.B0 = true := by kernel_rfl

set_option maxHeartbeats 8000000 in
set_option maxRecDepth 100000 in
theorem one56 {base p q c g : Nat} {z0 z1 z2 z3 z4 z5 : Value} (s : (List Int × Bool) × Bool) (W : World) (h : One base p q c g #[z0, z1, z2, z3, z4, z5] 95 s W) :
  Calls Try.prog 56 #[.pointer (some ⟨g, 0, none⟩), .pointer (some ⟨c, 0, none⟩)] W fun e W' => e = .returned (.tuple #[]) ∧ W'.heap[g]? = some (.cells (putN #[z0, z1, z2, z3, z4, z5] 0 (rInts 6 s.1).1) 95 (0, 0)) ∧ SR base p q ((rInts 6 s.1).2, s.2) W' ∧ Ch (fun k => k = p ∨ k = g) W W' := by
 have HD := Aside0.mk h
 have HCH := Aside0.mk (Ch.refl (fun k => k = p ∨ k = g) W)
 clear h
 go_enter Try.func56, Try.ntmps56
 go_upto_region 0 with (fail)
 refine start_ (n := 21) (S := fun w' => w'.cell? ⟨c, 0, none⟩ = some (.pointer (some ⟨q, 0, none⟩))) (ds := [20]) #[false, false, false, false, false, false, false, false, false, false, false, false, false, false, false, false, false, false, false, false, false] (by kernel_rfl) rfl rfl ((blk_cell (HD.out.go (below_drew (Below.refl _ _))).cap 0).trans rfl) (fun hHeld => ?_); refine with_tabW One56.tab0 One56.bits0 (fun HT_ HW_ => ?_)
 have n_ := Aside0.mk (HD.out.go (below_drew (Below.refl _ _)))
 have m_ := Aside0.mk (HCH.out.trans (Ch.of_below (S := fun _ => False) (below_drew (Below.refl _ _))) (fun _ _ h => h.elim))
 clear HD; clear HCH
 have HD := n_
 have HCH := m_
 clear n_; clear m_
 generalize World.drew _ = wz at HD HCH hHeld ⊢
 refine plan_ [(0, 3)] ?_
 refine planT_ (v := ?_) (a' := ?_) rfl rfl (take_ofW HT_.out HW_.out (by kernel_rfl)) (fun _ _ _ h => h) (Or.inl ⟨by rfl, ?_⟩) hHeld ?_ ?_; rotate_left; (rintro w' hs_; go_simp; with_reducible rfl); rotate_left; (simp only [Act.put, List.setIfInBounds_toArray, List.set_cons_zero, List.set_cons_succ, i64_w, i32_w]; rfl)
 refine planEnd_ ?_
 refine plan_ [(1, 4), (2, 5), (3, 6), (4, 7), (5, 8), (6, 9), (7, 10), (8, 11), (9, 12), (10, 13), (11, 14), (12, 15), (13, 16), (14, 17), (15, 18), (16, 19), (17, 20), (18, 21)] ?_
 iterate 18 (refine planP_ (v := ?_) (a' := ?_) rfl rfl (any_of HT_.out (by kernel_rfl)) (fun _ _ _ h => h) (Or.inl ⟨by rfl, ?_⟩) ?_ ?_; rotate_left; (intro w'; go_simp; with_reducible rfl); rotate_left; (simp only [Act.put, List.setIfInBounds_toArray, List.set_cons_zero, List.set_cons_succ, i64_w, i32_w]; rfl))
 refine planEnd_ ?_
 refine one_ (i := 19) (N := some 22) #[true, true, true, true, true, true, true, true, true, true, true, true, true, true, true, true, true, true, true, true, false] rfl rfl (one_of HT_.out (by kernel_rfl)) (by decide) (fun K hK => ?_)
 refine ptrs_step ?hg (N := 22) ?hd (cells := #[.pointer (some ⟨g, 0, none⟩), .pointer (some ⟨g, 1, none⟩), .pointer (some ⟨g, 2, none⟩), .pointer (some ⟨g, 3, none⟩), .pointer (some ⟨g, 4, none⟩), .pointer (some ⟨g, 5, none⟩)]) (n := 6) ?hr ?_; (case hd => rfl); (case hg => rfl); (case hr => first | (go_simp; done) | (go_simp; rfl))
 intro t ht w2 ht2 hb2
 have HTQ : Aside0 (q < t ∧ g ≠ t) := ⟨by subst ht; exact ⟨HD.out.sr.lt, Nat.ne_of_lt (blk_lt HD.out.blk)⟩⟩
 have HPT : Aside0 (∀ i, i < 6 → (#[.pointer (some ⟨g, 0, none⟩), .pointer (some ⟨g, 1, none⟩), .pointer (some ⟨g, 2, none⟩), .pointer (some ⟨g, 3, none⟩), .pointer (some ⟨g, 4, none⟩), .pointer (some ⟨g, 5, none⟩)] : Array Value)[i]? = some (.pointer (some ⟨g, 0 + i, none⟩))) := ⟨by intro i hi; (have hi_ : i = 0 ∨ i = 1 ∨ i = 2 ∨ i = 3 ∨ i = 4 ∨ i = 5 := by omega); rcases hi_ with rfl | rfl | rfl | rfl | rfl | rfl <;> rfl⟩
 have HSZ : Aside0 (0 + 6 ≤ (#[z0, z1, z2, z3, z4, z5] : Array Value).size ∧ 6 ≤ 100) := ⟨by simp, by decide⟩
 have HT2 := Aside0.mk ht2
 have n_ := Aside0.mk (HD.out.go hb2)
 have m_ := Aside0.mk (HCH.out.trans (Ch.of_below (S := fun _ => False) hb2) (fun _ _ h => h.elim))
 clear HD; clear HCH; clear ht; clear ht2; clear hb2
 have HD := n_
 have HCH := m_
 clear n_; clear m_
 refine hK.out _ _ ((blk_cell HD.out.cap 0).trans rfl) (fun hHeld => ?_)
 clear hK; clear K
 refine norm_ (a' := ?_) ?_ ?_
 rotate_left
 ·show Act.put _ (some 22) _ = _
  simp only [Act.put, List.setIfInBounds_toArray, List.set_cons_zero, List.set_cons_succ, i64_w, i32_w]
  rfl
 refine last_ (i := 20) (N := some 23) #[true, true, true, true, true, true, true, true, true, true, true, true, true, true, true, true, true, true, true, true, true] rfl rfl (one_of HT_.out (by kernel_rfl)) (by decide) (fun K hK => ?_)
 refine goes_ Try.func52 (by kernel_rfl) rfl #[.pointer (some ⟨q, 0, none⟩), .slice (some ⟨t, 0, none⟩) 6 6] (by rfl) rfl rfl mt ?_
 with_reducible refine (get_f (g := g) (t := t) (n := 6) (o := 0) (ty := 95) (arr := #[z0, z1, z2, z3, z4, z5]) (tarr := #[.pointer (some ⟨g, 0, none⟩), .pointer (some ⟨g, 1, none⟩), .pointer (some ⟨g, 2, none⟩), .pointer (some ⟨g, 3, none⟩), .pointer (some ⟨g, 4, none⟩), .pointer (some ⟨g, 5, none⟩)]) s _ HD.out.sr HD.out.lo.2.1 HTQ.out.2 HTQ.out.1 HD.out.blk HT2.out HPT.out HSZ.out.1 HSZ.out.2).mono ?_
 rintro e w3 ⟨rfl, hg3, hs3, hc3⟩; have G3 := Aside0.mk hg3; have S3 := Aside0.mk hs3; have K3 := Aside0.mk (HD.out.lo.1); have LL := Aside0.mk HD.out.lo; have C3 := Aside0.mk (hc3.keep HD.out.cap (by rintro (h | h) <;> (have := HD.out.lo; have := HD.out.sr.lo; omega))); have m_ := Aside0.mk (HCH.out.trans hc3 (fun _ _ h => h)); clear HCH HD hg3 hs3 hc3; have HCH := m_; clear m_
 refine ⟨_, rfl, ?_⟩
 refine hK.out _ _ ?_
 clear hK; clear K
 refine norm_ (a' := ?_) ?_ ?_
 rotate_left
 ·show Act.put _ (some 23) _ = _
  simp only [Act.put, List.setIfInBounds_toArray, List.set_cons_zero, List.set_cons_succ, i64_w, i32_w]
  rfl
 refine done_ (done_of HT_.out (by kernel_rfl)) ?_
 try go_wp2
 go_end0
 exact ⟨rfl, G3.out, S3.out, HCH.out⟩

def One58.T0 : Bool × List (List Nat × List Nat) := (true, [([], []), ([], []), ([1], [1]), ([2], [2]), ([], []), ([4], [4]), ([5], [5]), ([], []), ([7], [7]), ([8], [8]), ([3, 6, 9], [3, 6, 9]), ([0, 10], [0, 10])])
def One58.B0 : List Nat := [0, 0, 2, 6, 0, 16, 48, 0, 128, 384, 1022, 2047]
theorem One58.tab0 : rtab .any (opsOf Try.f58 0) = One58.T0 := by kernel_rfl
theorem One58.bits0 : waitsOk One58.T0.2 One58.B0 = true := by kernel_rfl

set_option maxHeartbeats 8000000 in
set_option maxRecDepth 100000 in
theorem one58 {base p q c g : Nat} {z0 z1 z2 : Value} (s : (List Int × Bool) × Bool) (W : World) (h : One base p q c g #[z0, z1, z2] 97 s W) :
  Calls Try.prog 58 #[.pointer (some ⟨g, 0, none⟩), .pointer (some ⟨c, 0, none⟩)] W fun e W' => e = .returned (.tuple #[]) ∧ W'.heap[g]? = some (.cells (putN #[z0, z1, z2] 0 (rInts 3 s.1).1) 97 (0, 0)) ∧ SR base p q ((rInts 3 s.1).2, s.2) W' ∧ Ch (fun k => k = p ∨ k = g) W W' := by
 have HD := Aside0.mk h
 have HCH := Aside0.mk (Ch.refl (fun k => k = p ∨ k = g) W)
 clear h
 go_enter Try.func58, Try.ntmps58
 go_upto_region 0 with (fail)
 refine start_ (n := 12) (S := fun w' => w'.cell? ⟨c, 0, none⟩ = some (.pointer (some ⟨q, 0, none⟩))) (ds := [11]) #[false, false, false, false, false, false, false, false, false, false, false, false] (by kernel_rfl) rfl rfl ((blk_cell (HD.out.go (below_drew (Below.refl _ _))).cap 0).trans rfl) (fun hHeld => ?_); refine with_tabW One58.tab0 One58.bits0 (fun HT_ HW_ => ?_)
 have n_ := Aside0.mk (HD.out.go (below_drew (Below.refl _ _)))
 have m_ := Aside0.mk (HCH.out.trans (Ch.of_below (S := fun _ => False) (below_drew (Below.refl _ _))) (fun _ _ h => h.elim))
 clear HD; clear HCH
 have HD := n_
 have HCH := m_
 clear n_; clear m_
 generalize World.drew _ = wz at HD HCH hHeld ⊢
 refine plan_ [(0, 3)] ?_
 refine planT_ (v := ?_) (a' := ?_) rfl rfl (take_ofW HT_.out HW_.out (by kernel_rfl)) (fun _ _ _ h => h) (Or.inl ⟨by rfl, ?_⟩) hHeld ?_ ?_; rotate_left; (rintro w' hs_; go_simp; with_reducible rfl); rotate_left; (simp only [Act.put, List.setIfInBounds_toArray, List.set_cons_zero, List.set_cons_succ, i64_w, i32_w]; rfl)
 refine planEnd_ ?_
 refine plan_ [(1, 4), (2, 5), (3, 6), (4, 7), (5, 8), (6, 9), (7, 10), (8, 11), (9, 12)] ?_
 iterate 9 (refine planP_ (v := ?_) (a' := ?_) rfl rfl (any_of HT_.out (by kernel_rfl)) (fun _ _ _ h => h) (Or.inl ⟨by rfl, ?_⟩) ?_ ?_; rotate_left; (intro w'; go_simp; with_reducible rfl); rotate_left; (simp only [Act.put, List.setIfInBounds_toArray, List.set_cons_zero, List.set_cons_succ, i64_w, i32_w]; rfl))
 refine planEnd_ ?_
 refine one_ (i := 10) (N := some 13) #[true, true, true, true, true, true, true, true, true, true, true, false] rfl rfl (one_of HT_.out (by kernel_rfl)) (by decide) (fun K hK => ?_)
 refine ptrs_step ?hg (N := 13) ?hd (cells := #[.pointer (some ⟨g, 0, none⟩), .pointer (some ⟨g, 1, none⟩), .pointer (some ⟨g, 2, none⟩)]) (n := 3) ?hr ?_; (case hd => rfl); (case hg => rfl); (case hr => first | (go_simp; done) | (go_simp; rfl))
 intro t ht w2 ht2 hb2
 have HTQ : Aside0 (q < t ∧ g ≠ t) := ⟨by subst ht; exact ⟨HD.out.sr.lt, Nat.ne_of_lt (blk_lt HD.out.blk)⟩⟩
 have HPT : Aside0 (∀ i, i < 3 → (#[.pointer (some ⟨g, 0, none⟩), .pointer (some ⟨g, 1, none⟩), .pointer (some ⟨g, 2, none⟩)] : Array Value)[i]? = some (.pointer (some ⟨g, 0 + i, none⟩))) := ⟨by intro i hi; (have hi_ : i = 0 ∨ i = 1 ∨ i = 2 := by omega); rcases hi_ with rfl | rfl | rfl <;> rfl⟩
 have HSZ : Aside0 (0 + 3 ≤ (#[z0, z1, z2] : Array Value).size ∧ 3 ≤ 100) := ⟨by simp, by decide⟩
 have HT2 := Aside0.mk ht2
 have n_ := Aside0.mk (HD.out.go hb2)
 have m_ := Aside0.mk (HCH.out.trans (Ch.of_below (S := fun _ => False) hb2) (fun _ _ h => h.elim))
 clear HD; clear HCH; clear ht; clear ht2; clear hb2
 have HD := n_
 have HCH := m_
 clear n_; clear m_
 refine hK.out _ _ ((blk_cell HD.out.cap 0).trans rfl) (fun hHeld => ?_)
 clear hK; clear K
 refine norm_ (a' := ?_) ?_ ?_
 rotate_left
 ·show Act.put _ (some 13) _ = _
  simp only [Act.put, List.setIfInBounds_toArray, List.set_cons_zero, List.set_cons_succ, i64_w, i32_w]
  rfl
 refine last_ (i := 11) (N := some 14) #[true, true, true, true, true, true, true, true, true, true, true, true] rfl rfl (one_of HT_.out (by kernel_rfl)) (by decide) (fun K hK => ?_)
 refine goes_ Try.func52 (by kernel_rfl) rfl #[.pointer (some ⟨q, 0, none⟩), .slice (some ⟨t, 0, none⟩) 3 3] (by rfl) rfl rfl mt ?_
 with_reducible refine (get_f (g := g) (t := t) (n := 3) (o := 0) (ty := 97) (arr := #[z0, z1, z2]) (tarr := #[.pointer (some ⟨g, 0, none⟩), .pointer (some ⟨g, 1, none⟩), .pointer (some ⟨g, 2, none⟩)]) s _ HD.out.sr HD.out.lo.2.1 HTQ.out.2 HTQ.out.1 HD.out.blk HT2.out HPT.out HSZ.out.1 HSZ.out.2).mono ?_
 rintro e w3 ⟨rfl, hg3, hs3, hc3⟩; have G3 := Aside0.mk hg3; have S3 := Aside0.mk hs3; have K3 := Aside0.mk (HD.out.lo.1); have LL := Aside0.mk HD.out.lo; have C3 := Aside0.mk (hc3.keep HD.out.cap (by rintro (h | h) <;> (have := HD.out.lo; have := HD.out.sr.lo; omega))); have m_ := Aside0.mk (HCH.out.trans hc3 (fun _ _ h => h)); clear HCH HD hg3 hs3 hc3; have HCH := m_; clear m_
 refine ⟨_, rfl, ?_⟩
 refine hK.out _ _ ?_
 clear hK; clear K
 refine norm_ (a' := ?_) ?_ ?_
 rotate_left
 ·show Act.put _ (some 14) _ = _
  simp only [Act.put, List.setIfInBounds_toArray, List.set_cons_zero, List.set_cons_succ, i64_w, i32_w]
  rfl
 refine done_ (done_of HT_.out (by kernel_rfl)) ?_
 try go_wp2
 go_end0
 exact ⟨rfl, G3.out, S3.out, HCH.out⟩

def One75.T0 : Bool × List (List Nat × List Nat) := (true, [([], []), ([], []), ([1], [1]), ([2], [2]), ([], []), ([4], [4]), ([5], [5]), ([3, 6], [3, 6]), ([0, 7], [0, 7])])
def One75.B0 : List Nat := [0, 0, 2, 6, 0, 16, 48, 126, 255]
theorem One75.tab0 : rtab .any (opsOf Try.f75 0) = One75.T0 := by kernel_rfl
theorem One75.bits0 : waitsOk One75.T0.2 One75.B0 = true := by kernel_rfl

set_option maxHeartbeats 8000000 in
set_option maxRecDepth 100000 in
theorem one75 {base p q c g : Nat} {z0 z1 : Value} (s : (List Int × Bool) × Bool) (W : World) (h : One base p q c g #[z0, z1] 102 s W) :
  Calls Try.prog 75 #[.pointer (some ⟨g, 0, none⟩), .pointer (some ⟨c, 0, none⟩)] W fun e W' => e = .returned (.tuple #[]) ∧ W'.heap[g]? = some (.cells (putN #[z0, z1] 0 (rInts 2 s.1).1) 102 (0, 0)) ∧ SR base p q ((rInts 2 s.1).2, s.2) W' ∧ Ch (fun k => k = p ∨ k = g) W W' := by
 have HD := Aside0.mk h
 have HCH := Aside0.mk (Ch.refl (fun k => k = p ∨ k = g) W)
 clear h
 go_enter Try.func75, Try.ntmps75
 go_upto_region 0 with (fail)
 refine start_ (n := 9) (S := fun w' => w'.cell? ⟨c, 0, none⟩ = some (.pointer (some ⟨q, 0, none⟩))) (ds := [8]) #[false, false, false, false, false, false, false, false, false] (by kernel_rfl) rfl rfl ((blk_cell (HD.out.go (below_drew (Below.refl _ _))).cap 0).trans rfl) (fun hHeld => ?_); refine with_tabW One75.tab0 One75.bits0 (fun HT_ HW_ => ?_)
 have n_ := Aside0.mk (HD.out.go (below_drew (Below.refl _ _)))
 have m_ := Aside0.mk (HCH.out.trans (Ch.of_below (S := fun _ => False) (below_drew (Below.refl _ _))) (fun _ _ h => h.elim))
 clear HD; clear HCH
 have HD := n_
 have HCH := m_
 clear n_; clear m_
 generalize World.drew _ = wz at HD HCH hHeld ⊢
 refine plan_ [(0, 3)] ?_
 refine planT_ (v := ?_) (a' := ?_) rfl rfl (take_ofW HT_.out HW_.out (by kernel_rfl)) (fun _ _ _ h => h) (Or.inl ⟨by rfl, ?_⟩) hHeld ?_ ?_; rotate_left; (rintro w' hs_; go_simp; with_reducible rfl); rotate_left; (simp only [Act.put, List.setIfInBounds_toArray, List.set_cons_zero, List.set_cons_succ, i64_w, i32_w]; rfl)
 refine planEnd_ ?_
 refine plan_ [(1, 4), (2, 5), (3, 6), (4, 7), (5, 8), (6, 9)] ?_
 iterate 6 (refine planP_ (v := ?_) (a' := ?_) rfl rfl (any_of HT_.out (by kernel_rfl)) (fun _ _ _ h => h) (Or.inl ⟨by rfl, ?_⟩) ?_ ?_; rotate_left; (intro w'; go_simp; with_reducible rfl); rotate_left; (simp only [Act.put, List.setIfInBounds_toArray, List.set_cons_zero, List.set_cons_succ, i64_w, i32_w]; rfl))
 refine planEnd_ ?_
 refine one_ (i := 7) (N := some 10) #[true, true, true, true, true, true, true, true, false] rfl rfl (one_of HT_.out (by kernel_rfl)) (by decide) (fun K hK => ?_)
 refine ptrs_step ?hg (N := 10) ?hd (cells := #[.pointer (some ⟨g, 0, none⟩), .pointer (some ⟨g, 1, none⟩)]) (n := 2) ?hr ?_; (case hd => rfl); (case hg => rfl); (case hr => first | (go_simp; done) | (go_simp; rfl))
 intro t ht w2 ht2 hb2
 have HTQ : Aside0 (q < t ∧ g ≠ t) := ⟨by subst ht; exact ⟨HD.out.sr.lt, Nat.ne_of_lt (blk_lt HD.out.blk)⟩⟩
 have HPT : Aside0 (∀ i, i < 2 → (#[.pointer (some ⟨g, 0, none⟩), .pointer (some ⟨g, 1, none⟩)] : Array Value)[i]? = some (.pointer (some ⟨g, 0 + i, none⟩))) := ⟨by intro i hi; (have hi_ : i = 0 ∨ i = 1 := by omega); rcases hi_ with rfl | rfl <;> rfl⟩
 have HSZ : Aside0 (0 + 2 ≤ (#[z0, z1] : Array Value).size ∧ 2 ≤ 100) := ⟨by simp, by decide⟩
 have HT2 := Aside0.mk ht2
 have n_ := Aside0.mk (HD.out.go hb2)
 have m_ := Aside0.mk (HCH.out.trans (Ch.of_below (S := fun _ => False) hb2) (fun _ _ h => h.elim))
 clear HD; clear HCH; clear ht; clear ht2; clear hb2
 have HD := n_
 have HCH := m_
 clear n_; clear m_
 refine hK.out _ _ ((blk_cell HD.out.cap 0).trans rfl) (fun hHeld => ?_)
 clear hK; clear K
 refine norm_ (a' := ?_) ?_ ?_
 rotate_left
 ·show Act.put _ (some 10) _ = _
  simp only [Act.put, List.setIfInBounds_toArray, List.set_cons_zero, List.set_cons_succ, i64_w, i32_w]
  rfl
 refine last_ (i := 8) (N := some 11) #[true, true, true, true, true, true, true, true, true] rfl rfl (one_of HT_.out (by kernel_rfl)) (by decide) (fun K hK => ?_)
 refine goes_ Try.func52 (by kernel_rfl) rfl #[.pointer (some ⟨q, 0, none⟩), .slice (some ⟨t, 0, none⟩) 2 2] (by rfl) rfl rfl mt ?_
 with_reducible refine (get_f (g := g) (t := t) (n := 2) (o := 0) (ty := 102) (arr := #[z0, z1]) (tarr := #[.pointer (some ⟨g, 0, none⟩), .pointer (some ⟨g, 1, none⟩)]) s _ HD.out.sr HD.out.lo.2.1 HTQ.out.2 HTQ.out.1 HD.out.blk HT2.out HPT.out HSZ.out.1 HSZ.out.2).mono ?_
 rintro e w3 ⟨rfl, hg3, hs3, hc3⟩; have G3 := Aside0.mk hg3; have S3 := Aside0.mk hs3; have K3 := Aside0.mk (HD.out.lo.1); have LL := Aside0.mk HD.out.lo; have C3 := Aside0.mk (hc3.keep HD.out.cap (by rintro (h | h) <;> (have := HD.out.lo; have := HD.out.sr.lo; omega))); have m_ := Aside0.mk (HCH.out.trans hc3 (fun _ _ h => h)); clear HCH HD hg3 hs3 hc3; have HCH := m_; clear m_
 refine ⟨_, rfl, ?_⟩
 refine hK.out _ _ ?_
 clear hK; clear K
 refine norm_ (a' := ?_) ?_ ?_
 rotate_left
 ·show Act.put _ (some 11) _ = _
  simp only [Act.put, List.setIfInBounds_toArray, List.set_cons_zero, List.set_cons_succ, i64_w, i32_w]
  rfl
 refine done_ (done_of HT_.out (by kernel_rfl)) ?_
 try go_wp2
 go_end0
 exact ⟨rfl, G3.out, S3.out, HCH.out⟩

def One54.T1 : Bool × List (List Nat × List Nat) := (true, [([], []), ([], []), ([1], [1]), ([2], [2]), ([], []), ([4], [4]), ([5], [5]), ([3, 6], [3, 6]), ([0, 7], [0, 7])])
def One54.B1 : List Nat := [0, 0, 2, 6, 0, 16, 48, 126, 255]
theorem One54.tab1 : rtab .any (opsOf Try.f54 1) = One54.T1 := by kernel_rfl
theorem One54.bits1 : waitsOk One54.T1.2 One54.B1 = true := by kernel_rfl

set_option maxHeartbeats 8000000 in
set_option maxRecDepth 100000 in
theorem one54 {base p q c g : Nat} {z0 z1 z2 : Value} (s : (List Int × Bool) × Bool) (W : World) (h : One base p q c g #[z0, z1, z2] 93 s W) :
  Calls Try.prog 54 #[.pointer (some ⟨g, 0, none⟩), .pointer (some ⟨c, 0, none⟩)] W fun e W' => e = .returned (.tuple #[]) ∧ W'.heap[g]? = some (.cells (putN #[.string (strOfNums (rText s.1 16).1), z1, z2] 1 (rInts 2 (rText s.1 16).2).1) 93 (0, 0)) ∧ SR base p q ((rInts 2 (rText s.1 16).2).2, s.2) W' ∧ Ch (fun k => k = p ∨ k = g) W W' := by
 obtain ⟨st, hst⟩ : ∃ st, rText s.1 16 = st := ⟨_, rfl⟩
 rw [hst]
 have HST := Aside0.mk hst
 have HD := Aside0.mk h
 have HCH := Aside0.mk (Ch.refl (fun k => k = p ∨ k = g) W)
 have hc0 := h.c0
 have hq0 := h.sr.q0
 clear h; clear hst
 go_enter Try.func54, Try.ntmps54
 go_upto_region 1 with (first | (go_at_call 23; (with_reducible refine (text_s HST.out _ HD.out.sr.rd).mono ?_); rintro e w1 ⟨rfl, hr, hp⟩; have n_ := Aside0.mk (HD.out.puts hr hp); have m_ := Aside0.mk (HCH.out.trans (Ch.of_puts (S := fun k => k = p ∨ k = g) hp (Or.inl rfl)) (fun _ _ h => h)); have hgz : World.cell? w1 ⟨g, 0, none⟩ = some z0 := (blk_cell n_.out.blk 0).trans rfl; have hgf := blk_frozen n_.out.blk 0; have e_ := Aside0.mk (n_.out.put (cells' := #[.string (strOfNums st.1), z1, z2]) 0 (.string (strOfNums st.1)) rfl); have f_ := Aside0.mk (m_.out.trans (Ch.set (S := fun k => k = g) w1 (g := g) 0 (.string (strOfNums st.1)) rfl) (fun _ _ h => Or.inr h)); clear HD HCH hr hp; have HD := e_; have HCH := f_; clear n_ m_ e_ f_))
 refine start_ (n := 9) (S := fun w' => w'.cell? ⟨c, 0, none⟩ = some (.pointer (some ⟨q, 0, none⟩))) (ds := [8]) #[false, false, false, false, false, false, false, false, false] (by kernel_rfl) rfl rfl ((blk_cell (HD.out.go (below_drew (Below.refl _ _))).cap 0).trans rfl) (fun hHeld => ?_); refine with_tabW One54.tab1 One54.bits1 (fun HT_ HW_ => ?_)
 have n_ := Aside0.mk (HD.out.go (below_drew (Below.refl _ _)))
 have m_ := Aside0.mk (HCH.out.trans (Ch.of_below (S := fun _ => False) (below_drew (Below.refl _ _))) (fun _ _ h => h.elim))
 clear HD; clear HCH
 have HD := n_
 have HCH := m_
 clear n_; clear m_
 generalize World.drew _ = wz at HD HCH hHeld ⊢
 refine plan_ [(0, 11)] ?_
 refine planT_ (v := ?_) (a' := ?_) rfl rfl (take_ofW HT_.out HW_.out (by kernel_rfl)) (fun _ _ _ h => h) (Or.inl ⟨by rfl, ?_⟩) hHeld ?_ ?_; rotate_left; (rintro w' hs_; go_simp; with_reducible rfl); rotate_left; (simp only [Act.put, List.setIfInBounds_toArray, List.set_cons_zero, List.set_cons_succ, i64_w, i32_w]; rfl)
 refine planEnd_ ?_
 refine plan_ [(1, 12), (2, 13), (3, 14), (4, 15), (5, 16), (6, 17)] ?_
 iterate 6 (refine planP_ (v := ?_) (a' := ?_) rfl rfl (any_of HT_.out (by kernel_rfl)) (fun _ _ _ h => h) (Or.inl ⟨by rfl, ?_⟩) ?_ ?_; rotate_left; (intro w'; go_simp; with_reducible rfl); rotate_left; (simp only [Act.put, List.setIfInBounds_toArray, List.set_cons_zero, List.set_cons_succ, i64_w, i32_w]; rfl))
 refine planEnd_ ?_
 refine one_ (i := 7) (N := some 18) #[true, true, true, true, true, true, true, true, false] rfl rfl (one_of HT_.out (by kernel_rfl)) (by decide) (fun K hK => ?_)
 refine ptrs_step ?hg (N := 18) ?hd (cells := #[.pointer (some ⟨g, 1, none⟩), .pointer (some ⟨g, 2, none⟩)]) (n := 2) ?hr ?_; (case hd => rfl); (case hg => rfl); (case hr => first | (go_simp; done) | (go_simp; rfl))
 intro t ht w2 ht2 hb2
 have HTQ : Aside0 (q < t ∧ g ≠ t) := ⟨by subst ht; exact ⟨HD.out.sr.lt, Nat.ne_of_lt (blk_lt HD.out.blk)⟩⟩
 have HPT : Aside0 (∀ i, i < 2 → (#[.pointer (some ⟨g, 1, none⟩), .pointer (some ⟨g, 2, none⟩)] : Array Value)[i]? = some (.pointer (some ⟨g, 1 + i, none⟩))) := ⟨by intro i hi; (have hi_ : i = 0 ∨ i = 1 := by omega); rcases hi_ with rfl | rfl <;> rfl⟩
 have HSZ : Aside0 (1 + 2 ≤ (#[.string (strOfNums st.1), z1, z2] : Array Value).size ∧ 2 ≤ 100) := ⟨by simp, by decide⟩
 have HT2 := Aside0.mk ht2
 have n_ := Aside0.mk (HD.out.go hb2)
 have m_ := Aside0.mk (HCH.out.trans (Ch.of_below (S := fun _ => False) hb2) (fun _ _ h => h.elim))
 clear HD; clear HCH; clear ht; clear ht2; clear hb2
 have HD := n_
 have HCH := m_
 clear n_; clear m_
 refine hK.out _ _ ((blk_cell HD.out.cap 0).trans rfl) (fun hHeld => ?_)
 clear hK; clear K
 refine norm_ (a' := ?_) ?_ ?_
 rotate_left
 ·show Act.put _ (some 18) _ = _
  simp only [Act.put, List.setIfInBounds_toArray, List.set_cons_zero, List.set_cons_succ, i64_w, i32_w]
  rfl
 refine last_ (i := 8) (N := some 19) #[true, true, true, true, true, true, true, true, true] rfl rfl (one_of HT_.out (by kernel_rfl)) (by decide) (fun K hK => ?_)
 refine goes_ Try.func52 (by kernel_rfl) rfl #[.pointer (some ⟨q, 0, none⟩), .slice (some ⟨t, 0, none⟩) 2 2] (by rfl) rfl rfl mt ?_
 with_reducible refine (get_f (g := g) (t := t) (n := 2) (o := 1) (ty := 93) (arr := #[.string (strOfNums st.1), z1, z2]) (tarr := #[.pointer (some ⟨g, 1, none⟩), .pointer (some ⟨g, 2, none⟩)]) (st.2, s.2) _ HD.out.sr HD.out.lo.2.1 HTQ.out.2 HTQ.out.1 HD.out.blk HT2.out HPT.out HSZ.out.1 HSZ.out.2).mono ?_
 rintro e w3 ⟨rfl, hg3, hs3, hc3⟩; have G3 := Aside0.mk hg3; have S3 := Aside0.mk hs3; have K3 := Aside0.mk (HD.out.lo.1); have LL := Aside0.mk HD.out.lo; have C3 := Aside0.mk (hc3.keep HD.out.cap (by rintro (h | h) <;> (have := HD.out.lo; have := HD.out.sr.lo; omega))); have m_ := Aside0.mk (HCH.out.trans hc3 (fun _ _ h => h)); clear HCH HD hg3 hs3 hc3; have HCH := m_; clear m_
 refine ⟨_, rfl, ?_⟩
 refine hK.out _ _ ?_
 clear hK; clear K
 refine norm_ (a' := ?_) ?_ ?_
 rotate_left
 ·show Act.put _ (some 19) _ = _
  simp only [Act.put, List.setIfInBounds_toArray, List.set_cons_zero, List.set_cons_succ, i64_w, i32_w]
  rfl
 refine done_ (done_of HT_.out (by kernel_rfl)) ?_
 try go_wp2
 go_end0
 exact ⟨rfl, G3.out, S3.out, HCH.out⟩

set_option maxHeartbeats 8000000 in
theorem one62 {base p q c g : Nat} {z0 : Value} (s : (List Int × Bool) × Bool) (W : World) (h : One base p q c g #[z0] 9 s W) :
  Calls Try.prog 62 #[.pointer (some ⟨g, 0, none⟩), .pointer (some ⟨c, 0, none⟩)] W fun e W' => e = .returned (.tuple #[]) ∧ W'.heap[g]? = some (.cells #[.string (strOfNums (rText s.1 16).1)] 9 (0, 0)) ∧ SR base p q ((rText s.1 16).2, s.2) W' ∧ Ch (fun k => k = p ∨ k = g) W W' := by
 obtain ⟨st, hst⟩ : ∃ st, rText s.1 16 = st := ⟨_, rfl⟩
 rw [hst]
 have HST := Aside0.mk hst
 have HD := Aside0.mk h
 have HCH := Aside0.mk (Ch.refl (fun k => k = p ∨ k = g) W)
 have hc0 := h.c0
 have hq0 := h.sr.q0
 clear h; clear hst
 go_enter Try.func62, Try.ntmps62
 go_wp2_with (first | (go_at_call 23; (with_reducible refine (text_s HST.out _ HD.out.sr.rd).mono ?_); rintro e w1 ⟨rfl, hr, hp⟩; have n_ := Aside0.mk (HD.out.puts hr hp); have m_ := Aside0.mk (HCH.out.trans (Ch.of_puts (S := fun k => k = p ∨ k = g) hp (Or.inl rfl)) (fun _ _ h => h)); have hgz : World.cell? w1 ⟨g, 0, none⟩ = some z0 := (blk_cell n_.out.blk 0).trans rfl; have hgf := blk_frozen n_.out.blk 0; have e_ := Aside0.mk (n_.out.put (cells' := #[.string (strOfNums st.1)]) 0 (.string (strOfNums st.1)) rfl); have f_ := Aside0.mk (m_.out.trans (Ch.set (S := fun k => k = g) w1 (g := g) 0 (.string (strOfNums st.1)) rfl) (fun _ _ h => Or.inr h)); clear HD HCH hr hp; have HD := e_; have HCH := f_; clear n_ m_ e_ f_))
 go_end0
 exact ⟨rfl, HD.out.blk, HD.out.sr, HCH.out⟩
abbrev RS := (List Int × Bool) × Bool
def rLoop {α : Type} (one : RS → α × RS) : Nat → RS → List α → List α × RS
 | 0, s, out => (out, s)
 | n + 1, s, out => rLoop one n (one s).2 (out ++ [(one s).1])
def rList {α : Type} (one : RS → α × RS) (m : Int) (s : RS) : List α × RS :=
 if 0 ≤ (rInt s.1).1 ∧ (rInt s.1).1 ≤ m then rLoop one (rInt s.1).1.toNat ((rInt s.1).2, s.2) [] else ([], ((rInt s.1).2, true))
def dFund (s : RS) : S93 × RS := (⟨strOfNums (rText s.1 16).1, (rInts 2 (rText s.1 16).2).1.getD 0 0, (rInts 2 (rText s.1 16).2).1.getD 1 0⟩, ((rInts 2 (rText s.1 16).2).2, s.2))
def dAlloc (s : RS) : S95 × RS := (⟨(rInts 6 s.1).1.getD 0 0, (rInts 6 s.1).1.getD 1 0, (rInts 6 s.1).1.getD 2 0, (rInts 6 s.1).1.getD 3 0, (rInts 6 s.1).1.getD 4 0, (rInts 6 s.1).1.getD 5 0⟩, ((rInts 6 s.1).2, s.2))
def dRate (s : RS) : S97 × RS := (⟨(rInts 3 s.1).1.getD 0 0, (rInts 3 s.1).1.getD 1 0, (rInts 3 s.1).1.getD 2 0⟩, ((rInts 3 s.1).2, s.2))
def dDraw (s : RS) : S102 × RS := (⟨(rInts 2 s.1).1.getD 0 0, (rInts 2 s.1).1.getD 1 0⟩, ((rInts 2 s.1).2, s.2))
def dKey (s : RS) : ByteArray × RS := (strOfNums (rText s.1 16).1, ((rText s.1 16).2, s.2))

theorem sinfo93 : (Try.prog.info? 93).map (fun i => (i.zero, i.size, i.bytes)) = some (some (.agg #[.string (⟨#[]⟩ : ByteArray), .int .i64 0, .int .i64 0]), 3, 32) := by kernel_rfl
theorem one54' {base p q c g : Nat} (s : RS) (x : S93) (s' : RS) (hx : dFund s = (x, s')) (W : World) (h : One base p q c g #[.string (⟨#[]⟩ : ByteArray), .int .i64 0, .int .i64 0] 93 s W) :
  Calls Try.prog 54 #[.pointer (some ⟨g, 0, none⟩), .pointer (some ⟨c, 0, none⟩)] W fun e W' => e = .returned (.tuple #[]) ∧ W'.heap[g]? = some (.cells #[.string x.f0, .int .i64 x.f1, .int .i64 x.f2] 93 (0, 0)) ∧ SR base p q s' W' ∧ Ch (fun k => k = p ∨ k = q ∨ k = g) W W' := by
 refine (one54 s W h).mono (fun e W' h => ?_)
 obtain ⟨h1, h2, h3, h4⟩ := h
 have e1 : x = (dFund s).1 := by rw [hx]
 have e2 : s' = (dFund s).2 := by rw [hx]
 subst e1; subst e2
 exact ⟨h1, h2, h3, h4.mono (fun k hk => hk.elim Or.inl (fun h => Or.inr (Or.inr h)))⟩
set_option maxHeartbeats 8000000 in
set_option maxRecDepth 100000 in
theorem list53 {base p q c : Nat} (s : RS) (m : Int) (W : World) (h : SR base p q s W) (hcap : W.heap[c]? = some (.cells #[.pointer (some ⟨q, 0, none⟩)] 104 (0, 0))) (hqc : q < c) (hm : 0 ≤ m ∧ m ≤ 16) :
  Calls Try.prog 53 #[.pointer (some ⟨q, 0, none⟩), .int .i64 m, .func (.func 54) #[] #[.pointer (some ⟨c, 0, none⟩)]] W fun e W' => ∃ v, e = .returned v ∧ Kd.R k93 93 W' W.heap.size (fun _ => True) v (rList dFund m s).1 ∧ SR base p q (rList dFund m s).2 W' ∧ Ch (fun k => k = p ∨ k = q) W W' := by
 obtain ⟨st, hst⟩ : ∃ st, rInt s.1 = st := ⟨_, rfl⟩
 obtain ⟨L, hL⟩ : ∃ L, rList dFund m s = L := ⟨_, rfl⟩
 have HST := Aside0.mk hst
 have HS := Aside0.mk h
 have HLQ := Aside0.mk h.lt
 have hq0 := h.q0
 have HCAP := Aside0.mk hcap
 have HLC := Aside0.mk hqc
 have HLC2 := Aside0.mk (blk_lt hcap)
 have hdef : rList dFund m s = if 0 ≤ st.1 ∧ st.1 ≤ m then rLoop dFund st.1.toNat (st.2, s.2) [] else ([], (st.2, true)) := by unfold rList; rw [hst]
 rw [hL] at hdef ⊢
 clear h; clear hL; clear hst; clear hcap; clear hqc
 by_cases c0 : st.1 < 0
 ·have c0b : decide (st.1 < 0) = true := decide_eq_true c0
  have HBAD : Aside0 (L = ([], (st.2, true))) := ⟨by rw [hdef, if_neg (by omega)]⟩
  clear hdef; clear c0
  go_enter Try.func53, Try.ntmps53
  go_wp2_with (first | (go_at_call 25; (with_reducible refine (int_s HST.out _ HS.out.rd).mono ?_); rintro e w1 ⟨rfl, hr, hp⟩; have HS1 := Aside0.mk (HS.out.puts hr hp); have HC1 := Aside0.mk (Ch.of_puts (S := fun k => k = p ∨ k = q) hp (Or.inl rfl)); have HP1 := Aside0.mk (HC1.out.keep HCAP.out (by have := HLC.out; have := HS.out.lo; rintro (h | h) <;> omega)); clear hr hp; have hq1 := HS1.out.q1; have hqf := blk_frozen HS1.out.rq 1))
  go_ret
  refine ⟨_, rfl, ?_, ?_, ?_⟩
  ·rw [HBAD.out]; exact Kd.R_nil _ _ _ _ _
  ·rw [HBAD.out]; exact HS1.out.setq true
  ·exact HC1.out.trans (Ch.set (S := fun k => k = p ∨ k = q) _ 1 _ (Or.inr rfl)) (fun _ _ h => h)
 ·have c0b : decide (st.1 < 0) = false := decide_eq_false c0
  by_cases c1 : m < st.1
  ·have c1b : decide (m < st.1) = true := decide_eq_true c1
   have HBAD : Aside0 (L = ([], (st.2, true))) := ⟨by rw [hdef, if_neg (by omega)]⟩
   clear hdef; clear c0; clear c1
   go_enter Try.func53, Try.ntmps53
   go_wp2_with (first | (go_at_call 25; (with_reducible refine (int_s HST.out _ HS.out.rd).mono ?_); rintro e w1 ⟨rfl, hr, hp⟩; have HS1 := Aside0.mk (HS.out.puts hr hp); have HC1 := Aside0.mk (Ch.of_puts (S := fun k => k = p ∨ k = q) hp (Or.inl rfl)); have HP1 := Aside0.mk (HC1.out.keep HCAP.out (by have := HLC.out; have := HS.out.lo; rintro (h | h) <;> omega)); clear hr hp; have hq1 := HS1.out.q1; have hqf := blk_frozen HS1.out.rq 1))
   go_ret
   refine ⟨_, rfl, ?_, ?_, ?_⟩
   ·rw [HBAD.out]; exact Kd.R_nil _ _ _ _ _
   ·rw [HBAD.out]; exact HS1.out.setq true
   ·exact HC1.out.trans (Ch.set (S := fun k => k = p ∨ k = q) _ 1 _ (Or.inr rfl)) (fun _ _ h => h)
  ·have c1b : decide (m < st.1) = false := decide_eq_false c1
   have HN : Aside0 (0 ≤ st.1 ∧ st.1 ≤ 16) := ⟨by omega⟩
   obtain ⟨T, hT⟩ : ∃ T, rLoop dFund st.1.toNat (st.2, s.2) [] = T := ⟨_, rfl⟩
   have HT := Aside0.mk hT
   have HOKE : Aside0 (L = T) := ⟨by rw [hdef, if_pos (by omega), hT]⟩
   clear hdef; clear c0; clear c1; clear hT
   go_enter Try.func53, Try.ntmps53
   go_wp2_with (first | (go_at_call 25; (with_reducible refine (int_s HST.out _ HS.out.rd).mono ?_); rintro e w1 ⟨rfl, hr, hp⟩; have HS1 := Aside0.mk (HS.out.puts hr hp); have HC1 := Aside0.mk (Ch.of_puts (S := fun k => k = p ∨ k = q) hp (Or.inl rfl)); have HP1 := Aside0.mk (HC1.out.keep HCAP.out (by have := HLC.out; have := HS.out.lo; rintro (h | h) <;> omega)); clear hr hp))
   go_loopg [26, 7] st.1.toNat (fun kq v26 v7 w' => ∃ (x26 : Int) (out : List S93) (si : RS), v26 = .int .i64 x26 ∧ Aside0 (x26 + kq = st.1 ∧ 0 ≤ x26 ∧ (out.length : Int) = x26) ∧ Aside0 (rLoop dFund kq si out = T) ∧ Aside0 (Kd.R k93 93 w' W.heap.size (fun k => W.heap.size ≤ k) v7 out) ∧ Aside0 (SR base p q si w') ∧ Aside0 (Ch (fun k => k = p ∨ k = q) W w') ∧ Aside0 (w'.heap[c]? = some (.cells #[.pointer (some ⟨q, 0, none⟩)] 104 (0, 0))))
   case atStart => exact ⟨0, [], (st.2, s.2), rfl, ⟨by have := HN.out; simp; omega⟩, HT, ⟨Kd.R_nil _ _ _ _ _⟩, HS1, HC1, HP1⟩
   case round =>
    clear HS1; clear HC1; clear HT; clear HP1
    obtain ⟨x26, out, si, rfl, HI, HT, HR, HSI, HCH, HCP⟩ := hrel
    by_cases d1 : x26 < st.1
    ·have d1b : decide (x26 < st.1) = true := decide_eq_true d1
     obtain ⟨k1, rfl⟩ : ∃ k1, gk = k1 + 1 := ⟨gk - 1, by have := HI.out; omega⟩
     obtain ⟨⟨x, sj⟩, hx⟩ : ∃ y, dFund si = y := ⟨_, rfl⟩
     have HX := Aside0.mk hx
     have HT2 : Aside0 (rLoop dFund k1 sj (out ++ [x]) = T) := ⟨by have := HT.out; rw [rLoop, hx] at this; exact this⟩
     have HOL : Aside0 (out.length ≤ 16) := ⟨by have := HI.out; have := HN.out; omega⟩
     have e26 : wrap64 (x26 + 1) = x26 + 1 := by have := HI.out; have := HN.out; unfold wrap64; omega
     have HSZ := Aside0.mk HCH.out.size
     have HON : Aside0 (One base p q c wr.heap.size #[.string (⟨#[]⟩ : ByteArray), .int .i64 0, .int .i64 0] 93 si (wr.alloc (.cells #[.string (⟨#[]⟩ : ByteArray), .int .i64 0, .int .i64 0] 93 (0, 0)))) := ⟨⟨HSI.out.below (below_alloc (Below.refl _ _) _), blk_below HCP.out (below_alloc (Below.refl _ _) _), heap_alloc_new wr _, ⟨HLC.out, HSI.out.lt, by have := blk_lt HCP.out; omega⟩⟩⟩
     clear d1; clear hx; clear HT
     go_wp2_with (first | (go_at_call 54; (with_reducible refine (one54' si x sj HX.out _ HON.out).mono ?_); rintro e w2 ⟨rfl, hg2, hs2, hc2⟩; have HC2 := Aside0.mk (HCH.out.trans (Ch.trans (Ch.of_below (S := fun k => k = p ∨ k = q ∨ k = wr.heap.size) (below_alloc (Below.refl wr.heap.size wr) (.cells #[.string (⟨#[]⟩ : ByteArray), .int .i64 0, .int .i64 0] 93 (0, 0)))) hc2 (fun _ _ h => h)) (fun k hk h => by rcases h with h | h | h; (exact Or.inl h); (exact Or.inr h); (exact absurd hk (by have := HCH.out.size; omega)))); have HR2 : Aside0 (Kd.R k93 93 w2 W.heap.size (fun k => W.heap.size ≤ k) u7 out) := ⟨Kd.R_step HR.out (fun k hk hlt => (hc2.block k (by simp; omega) (by have := HSI.out.lt; have := HSI.out.lo; have := HLQ.out; rintro (h | h | h) <;> omega)).trans (Below.heap_alloc wr _ k (by omega)))⟩; have HCP2 := Aside0.mk (hc2.keep (blk_below HCP.out (below_alloc (Below.refl _ _) _)) (by have := HLC.out; have := HSI.out.lo; have := blk_lt HCP.out; rintro (h | h | h) <;> omega)); have HS2 := Aside0.mk hs2; have HG2 := Aside0.mk hg2; have hz0 : World.cell? w2 ⟨wr.heap.size, 0, none⟩ = some (.string x.f0) := (blk_cell hg2 0).trans rfl; have hz1 : World.cell? w2 ⟨wr.heap.size, 1, none⟩ = some (.int .i64 x.f1) := (blk_cell hg2 1).trans rfl; have hz2 : World.cell? w2 ⟨wr.heap.size, 2, none⟩ = some (.int .i64 x.f2) := (blk_cell hg2 2).trans rfl; clear hg2 hs2 hc2 HCH HSI HR HCP HON; have HCH := HC2; clear HC2) | ((with_reducible refine gate_builtin (b := .append) (xs := #[.tmp 30, .tmp 32]) rfl ?_); at_builtin; refine Kd.R_append k93 (w0 := w2) W.heap.size rfl (.tmp 30) (.tmp 32) 62 93 (.agg #[.string (⟨#[]⟩ : ByteArray), .int .i64 0, .int .i64 0]) 32 rfl Try.underlying62 sinfo93 rfl (by decide) (by omega) u7 out x [.string x.f0, .int .i64 x.f1, .int .i64 x.f2] (fun k => W.heap.size ≤ k) (fun _ => False) rfl rfl ?aP (fun _ hk => hk.elim) ?aF ?aO ?aB ?aS ?aL ?_; (case aP => exact k93_mkM _ _ _ x); (case aF => exact (fun k hk => Nat.le_trans HCH.out.size hk)); (case aO => exact HR2.out); (case aB => exact Below.refl _ _); (case aS => exact HCH.out.size); (case aL => have := HOL.out; omega); intro v3 w3 ho hb hg hat; have HR3 := Aside0.mk ho; have HC3 := Aside0.mk (HCH.out.trans (Ch.of_grown (S := fun k => u7.ownBlock = some k) hg (fun _ h => h)) (fun k hk h => absurd (HR2.out.1 k h) (by omega))); have HS3 := Aside0.mk (HS2.out.ch (Ch.of_grown (S := fun k => u7.ownBlock = some k) hg (fun _ h => h)) (fun k h => by have := HR2.out.1 k h; have := HLQ.out; omega)); have HCP3 := Aside0.mk ((Ch.of_grown (S := fun k => u7.ownBlock = some k) hg (fun _ h => h)).keep HCP2.out (fun h => by have := HR2.out.1 c h; have := HLC2.out; omega)); clear ho hb hg hat))
     go_roundg k1
     case measure => omega
     case rel => exact ⟨x26 + 1, out ++ [x], sj, by rw [e26], ⟨by have := HI.out; simp; omega⟩, HT2, HR3, HS3, HC3, HCP3⟩
    ·have d1b : decide (x26 < st.1) = false := decide_eq_false d1
     have hk0 : gk = 0 := by have := HI.out; omega
     subst hk0
     have HT2 : (out, si) = T := HT.out
     clear d1; clear HT
     go_wp2
     go_ret
     refine ⟨_, rfl, ?_, ?_, HCH.out⟩
     ·rw [HOKE.out, ← HT2]; exact Kd.R_mono HR.out (fun _ _ => trivial)
     ·rw [HOKE.out, ← HT2]; exact HSI.out

theorem sinfo95 : (Try.prog.info? 95).map (fun i => (i.zero, i.size, i.bytes)) = some (some (.agg #[.int .i64 0, .int .i64 0, .int .i64 0, .int .i64 0, .int .i64 0, .int .i64 0]), 6, 48) := by kernel_rfl
theorem one56' {base p q c g : Nat} (s : RS) (x : S95) (s' : RS) (hx : dAlloc s = (x, s')) (W : World) (h : One base p q c g #[.int .i64 0, .int .i64 0, .int .i64 0, .int .i64 0, .int .i64 0, .int .i64 0] 95 s W) :
  Calls Try.prog 56 #[.pointer (some ⟨g, 0, none⟩), .pointer (some ⟨c, 0, none⟩)] W fun e W' => e = .returned (.tuple #[]) ∧ W'.heap[g]? = some (.cells #[.int .i64 x.f0, .int .i64 x.f1, .int .i64 x.f2, .int .i64 x.f3, .int .i64 x.f4, .int .i64 x.f5] 95 (0, 0)) ∧ SR base p q s' W' ∧ Ch (fun k => k = p ∨ k = q ∨ k = g) W W' := by
 refine (one56 s W h).mono (fun e W' h => ?_)
 obtain ⟨h1, h2, h3, h4⟩ := h
 have e1 : x = (dAlloc s).1 := by rw [hx]
 have e2 : s' = (dAlloc s).2 := by rw [hx]
 subst e1; subst e2
 exact ⟨h1, h2, h3, h4.mono (fun k hk => hk.elim Or.inl (fun h => Or.inr (Or.inr h)))⟩
set_option maxHeartbeats 8000000 in
set_option maxRecDepth 100000 in
theorem list55 {base p q c : Nat} (s : RS) (m : Int) (W : World) (h : SR base p q s W) (hcap : W.heap[c]? = some (.cells #[.pointer (some ⟨q, 0, none⟩)] 104 (0, 0))) (hqc : q < c) (hm : 0 ≤ m ∧ m ≤ 16) :
  Calls Try.prog 55 #[.pointer (some ⟨q, 0, none⟩), .int .i64 m, .func (.func 56) #[] #[.pointer (some ⟨c, 0, none⟩)]] W fun e W' => ∃ v, e = .returned v ∧ Kd.R k95 95 W' W.heap.size (fun _ => True) v (rList dAlloc m s).1 ∧ SR base p q (rList dAlloc m s).2 W' ∧ Ch (fun k => k = p ∨ k = q) W W' := by
 obtain ⟨st, hst⟩ : ∃ st, rInt s.1 = st := ⟨_, rfl⟩
 obtain ⟨L, hL⟩ : ∃ L, rList dAlloc m s = L := ⟨_, rfl⟩
 have HST := Aside0.mk hst
 have HS := Aside0.mk h
 have HLQ := Aside0.mk h.lt
 have hq0 := h.q0
 have HCAP := Aside0.mk hcap
 have HLC := Aside0.mk hqc
 have HLC2 := Aside0.mk (blk_lt hcap)
 have hdef : rList dAlloc m s = if 0 ≤ st.1 ∧ st.1 ≤ m then rLoop dAlloc st.1.toNat (st.2, s.2) [] else ([], (st.2, true)) := by unfold rList; rw [hst]
 rw [hL] at hdef ⊢
 clear h; clear hL; clear hst; clear hcap; clear hqc
 by_cases c0 : st.1 < 0
 ·have c0b : decide (st.1 < 0) = true := decide_eq_true c0
  have HBAD : Aside0 (L = ([], (st.2, true))) := ⟨by rw [hdef, if_neg (by omega)]⟩
  clear hdef; clear c0
  go_enter Try.func55, Try.ntmps55
  go_wp2_with (first | (go_at_call 25; (with_reducible refine (int_s HST.out _ HS.out.rd).mono ?_); rintro e w1 ⟨rfl, hr, hp⟩; have HS1 := Aside0.mk (HS.out.puts hr hp); have HC1 := Aside0.mk (Ch.of_puts (S := fun k => k = p ∨ k = q) hp (Or.inl rfl)); have HP1 := Aside0.mk (HC1.out.keep HCAP.out (by have := HLC.out; have := HS.out.lo; rintro (h | h) <;> omega)); clear hr hp; have hq1 := HS1.out.q1; have hqf := blk_frozen HS1.out.rq 1))
  go_ret
  refine ⟨_, rfl, ?_, ?_, ?_⟩
  ·rw [HBAD.out]; exact Kd.R_nil _ _ _ _ _
  ·rw [HBAD.out]; exact HS1.out.setq true
  ·exact HC1.out.trans (Ch.set (S := fun k => k = p ∨ k = q) _ 1 _ (Or.inr rfl)) (fun _ _ h => h)
 ·have c0b : decide (st.1 < 0) = false := decide_eq_false c0
  by_cases c1 : m < st.1
  ·have c1b : decide (m < st.1) = true := decide_eq_true c1
   have HBAD : Aside0 (L = ([], (st.2, true))) := ⟨by rw [hdef, if_neg (by omega)]⟩
   clear hdef; clear c0; clear c1
   go_enter Try.func55, Try.ntmps55
   go_wp2_with (first | (go_at_call 25; (with_reducible refine (int_s HST.out _ HS.out.rd).mono ?_); rintro e w1 ⟨rfl, hr, hp⟩; have HS1 := Aside0.mk (HS.out.puts hr hp); have HC1 := Aside0.mk (Ch.of_puts (S := fun k => k = p ∨ k = q) hp (Or.inl rfl)); have HP1 := Aside0.mk (HC1.out.keep HCAP.out (by have := HLC.out; have := HS.out.lo; rintro (h | h) <;> omega)); clear hr hp; have hq1 := HS1.out.q1; have hqf := blk_frozen HS1.out.rq 1))
   go_ret
   refine ⟨_, rfl, ?_, ?_, ?_⟩
   ·rw [HBAD.out]; exact Kd.R_nil _ _ _ _ _
   ·rw [HBAD.out]; exact HS1.out.setq true
   ·exact HC1.out.trans (Ch.set (S := fun k => k = p ∨ k = q) _ 1 _ (Or.inr rfl)) (fun _ _ h => h)
  ·have c1b : decide (m < st.1) = false := decide_eq_false c1
   have HN : Aside0 (0 ≤ st.1 ∧ st.1 ≤ 16) := ⟨by omega⟩
   obtain ⟨T, hT⟩ : ∃ T, rLoop dAlloc st.1.toNat (st.2, s.2) [] = T := ⟨_, rfl⟩
   have HT := Aside0.mk hT
   have HOKE : Aside0 (L = T) := ⟨by rw [hdef, if_pos (by omega), hT]⟩
   clear hdef; clear c0; clear c1; clear hT
   go_enter Try.func55, Try.ntmps55
   go_wp2_with (first | (go_at_call 25; (with_reducible refine (int_s HST.out _ HS.out.rd).mono ?_); rintro e w1 ⟨rfl, hr, hp⟩; have HS1 := Aside0.mk (HS.out.puts hr hp); have HC1 := Aside0.mk (Ch.of_puts (S := fun k => k = p ∨ k = q) hp (Or.inl rfl)); have HP1 := Aside0.mk (HC1.out.keep HCAP.out (by have := HLC.out; have := HS.out.lo; rintro (h | h) <;> omega)); clear hr hp))
   go_loopg [26, 7] st.1.toNat (fun kq v26 v7 w' => ∃ (x26 : Int) (out : List S95) (si : RS), v26 = .int .i64 x26 ∧ Aside0 (x26 + kq = st.1 ∧ 0 ≤ x26 ∧ (out.length : Int) = x26) ∧ Aside0 (rLoop dAlloc kq si out = T) ∧ Aside0 (Kd.R k95 95 w' W.heap.size (fun k => W.heap.size ≤ k) v7 out) ∧ Aside0 (SR base p q si w') ∧ Aside0 (Ch (fun k => k = p ∨ k = q) W w') ∧ Aside0 (w'.heap[c]? = some (.cells #[.pointer (some ⟨q, 0, none⟩)] 104 (0, 0))))
   case atStart => exact ⟨0, [], (st.2, s.2), rfl, ⟨by have := HN.out; simp; omega⟩, HT, ⟨Kd.R_nil _ _ _ _ _⟩, HS1, HC1, HP1⟩
   case round =>
    clear HS1; clear HC1; clear HT; clear HP1
    obtain ⟨x26, out, si, rfl, HI, HT, HR, HSI, HCH, HCP⟩ := hrel
    by_cases d1 : x26 < st.1
    ·have d1b : decide (x26 < st.1) = true := decide_eq_true d1
     obtain ⟨k1, rfl⟩ : ∃ k1, gk = k1 + 1 := ⟨gk - 1, by have := HI.out; omega⟩
     obtain ⟨⟨x, sj⟩, hx⟩ : ∃ y, dAlloc si = y := ⟨_, rfl⟩
     have HX := Aside0.mk hx
     have HT2 : Aside0 (rLoop dAlloc k1 sj (out ++ [x]) = T) := ⟨by have := HT.out; rw [rLoop, hx] at this; exact this⟩
     have HOL : Aside0 (out.length ≤ 16) := ⟨by have := HI.out; have := HN.out; omega⟩
     have e26 : wrap64 (x26 + 1) = x26 + 1 := by have := HI.out; have := HN.out; unfold wrap64; omega
     have HSZ := Aside0.mk HCH.out.size
     have HON : Aside0 (One base p q c wr.heap.size #[.int .i64 0, .int .i64 0, .int .i64 0, .int .i64 0, .int .i64 0, .int .i64 0] 95 si (wr.alloc (.cells #[.int .i64 0, .int .i64 0, .int .i64 0, .int .i64 0, .int .i64 0, .int .i64 0] 95 (0, 0)))) := ⟨⟨HSI.out.below (below_alloc (Below.refl _ _) _), blk_below HCP.out (below_alloc (Below.refl _ _) _), heap_alloc_new wr _, ⟨HLC.out, HSI.out.lt, by have := blk_lt HCP.out; omega⟩⟩⟩
     clear d1; clear hx; clear HT
     go_wp2_with (first | (go_at_call 56; (with_reducible refine (one56' si x sj HX.out _ HON.out).mono ?_); rintro e w2 ⟨rfl, hg2, hs2, hc2⟩; have HC2 := Aside0.mk (HCH.out.trans (Ch.trans (Ch.of_below (S := fun k => k = p ∨ k = q ∨ k = wr.heap.size) (below_alloc (Below.refl wr.heap.size wr) (.cells #[.int .i64 0, .int .i64 0, .int .i64 0, .int .i64 0, .int .i64 0, .int .i64 0] 95 (0, 0)))) hc2 (fun _ _ h => h)) (fun k hk h => by rcases h with h | h | h; (exact Or.inl h); (exact Or.inr h); (exact absurd hk (by have := HCH.out.size; omega)))); have HR2 : Aside0 (Kd.R k95 95 w2 W.heap.size (fun k => W.heap.size ≤ k) u7 out) := ⟨Kd.R_step HR.out (fun k hk hlt => (hc2.block k (by simp; omega) (by have := HSI.out.lt; have := HSI.out.lo; have := HLQ.out; rintro (h | h | h) <;> omega)).trans (Below.heap_alloc wr _ k (by omega)))⟩; have HCP2 := Aside0.mk (hc2.keep (blk_below HCP.out (below_alloc (Below.refl _ _) _)) (by have := HLC.out; have := HSI.out.lo; have := blk_lt HCP.out; rintro (h | h | h) <;> omega)); have HS2 := Aside0.mk hs2; have HG2 := Aside0.mk hg2; have hz0 : World.cell? w2 ⟨wr.heap.size, 0, none⟩ = some (.int .i64 x.f0) := (blk_cell hg2 0).trans rfl; have hz1 : World.cell? w2 ⟨wr.heap.size, 1, none⟩ = some (.int .i64 x.f1) := (blk_cell hg2 1).trans rfl; have hz2 : World.cell? w2 ⟨wr.heap.size, 2, none⟩ = some (.int .i64 x.f2) := (blk_cell hg2 2).trans rfl; have hz3 : World.cell? w2 ⟨wr.heap.size, 3, none⟩ = some (.int .i64 x.f3) := (blk_cell hg2 3).trans rfl; have hz4 : World.cell? w2 ⟨wr.heap.size, 4, none⟩ = some (.int .i64 x.f4) := (blk_cell hg2 4).trans rfl; have hz5 : World.cell? w2 ⟨wr.heap.size, 5, none⟩ = some (.int .i64 x.f5) := (blk_cell hg2 5).trans rfl; clear hg2 hs2 hc2 HCH HSI HR HCP HON; have HCH := HC2; clear HC2) | ((with_reducible refine gate_builtin (b := .append) (xs := #[.tmp 30, .tmp 32]) rfl ?_); at_builtin; refine Kd.R_append k95 (w0 := w2) W.heap.size rfl (.tmp 30) (.tmp 32) 63 95 (.agg #[.int .i64 0, .int .i64 0, .int .i64 0, .int .i64 0, .int .i64 0, .int .i64 0]) 48 rfl Try.underlying63 sinfo95 rfl (by decide) (by omega) u7 out x [.int .i64 x.f0, .int .i64 x.f1, .int .i64 x.f2, .int .i64 x.f3, .int .i64 x.f4, .int .i64 x.f5] (fun k => W.heap.size ≤ k) (fun _ => False) rfl rfl ?aP (fun _ hk => hk.elim) ?aF ?aO ?aB ?aS ?aL ?_; (case aP => exact k95_mkM _ _ _ x); (case aF => exact (fun k hk => Nat.le_trans HCH.out.size hk)); (case aO => exact HR2.out); (case aB => exact Below.refl _ _); (case aS => exact HCH.out.size); (case aL => have := HOL.out; omega); intro v3 w3 ho hb hg hat; have HR3 := Aside0.mk ho; have HC3 := Aside0.mk (HCH.out.trans (Ch.of_grown (S := fun k => u7.ownBlock = some k) hg (fun _ h => h)) (fun k hk h => absurd (HR2.out.1 k h) (by omega))); have HS3 := Aside0.mk (HS2.out.ch (Ch.of_grown (S := fun k => u7.ownBlock = some k) hg (fun _ h => h)) (fun k h => by have := HR2.out.1 k h; have := HLQ.out; omega)); have HCP3 := Aside0.mk ((Ch.of_grown (S := fun k => u7.ownBlock = some k) hg (fun _ h => h)).keep HCP2.out (fun h => by have := HR2.out.1 c h; have := HLC2.out; omega)); clear ho hb hg hat))
     go_roundg k1
     case measure => omega
     case rel => exact ⟨x26 + 1, out ++ [x], sj, by rw [e26], ⟨by have := HI.out; simp; omega⟩, HT2, HR3, HS3, HC3, HCP3⟩
    ·have d1b : decide (x26 < st.1) = false := decide_eq_false d1
     have hk0 : gk = 0 := by have := HI.out; omega
     subst hk0
     have HT2 : (out, si) = T := HT.out
     clear d1; clear HT
     go_wp2
     go_ret
     refine ⟨_, rfl, ?_, ?_, HCH.out⟩
     ·rw [HOKE.out, ← HT2]; exact Kd.R_mono HR.out (fun _ _ => trivial)
     ·rw [HOKE.out, ← HT2]; exact HSI.out

theorem sinfo97 : (Try.prog.info? 97).map (fun i => (i.zero, i.size, i.bytes)) = some (some (.agg #[.int .i64 0, .int .i64 0, .int .i64 0]), 3, 24) := by kernel_rfl
theorem one58' {base p q c g : Nat} (s : RS) (x : S97) (s' : RS) (hx : dRate s = (x, s')) (W : World) (h : One base p q c g #[.int .i64 0, .int .i64 0, .int .i64 0] 97 s W) :
  Calls Try.prog 58 #[.pointer (some ⟨g, 0, none⟩), .pointer (some ⟨c, 0, none⟩)] W fun e W' => e = .returned (.tuple #[]) ∧ W'.heap[g]? = some (.cells #[.int .i64 x.f0, .int .i64 x.f1, .int .i64 x.f2] 97 (0, 0)) ∧ SR base p q s' W' ∧ Ch (fun k => k = p ∨ k = q ∨ k = g) W W' := by
 refine (one58 s W h).mono (fun e W' h => ?_)
 obtain ⟨h1, h2, h3, h4⟩ := h
 have e1 : x = (dRate s).1 := by rw [hx]
 have e2 : s' = (dRate s).2 := by rw [hx]
 subst e1; subst e2
 exact ⟨h1, h2, h3, h4.mono (fun k hk => hk.elim Or.inl (fun h => Or.inr (Or.inr h)))⟩
set_option maxHeartbeats 8000000 in
set_option maxRecDepth 100000 in
theorem list57 {base p q c : Nat} (s : RS) (m : Int) (W : World) (h : SR base p q s W) (hcap : W.heap[c]? = some (.cells #[.pointer (some ⟨q, 0, none⟩)] 104 (0, 0))) (hqc : q < c) (hm : 0 ≤ m ∧ m ≤ 16) :
  Calls Try.prog 57 #[.pointer (some ⟨q, 0, none⟩), .int .i64 m, .func (.func 58) #[] #[.pointer (some ⟨c, 0, none⟩)]] W fun e W' => ∃ v, e = .returned v ∧ Kd.R k97 97 W' W.heap.size (fun _ => True) v (rList dRate m s).1 ∧ SR base p q (rList dRate m s).2 W' ∧ Ch (fun k => k = p ∨ k = q) W W' := by
 obtain ⟨st, hst⟩ : ∃ st, rInt s.1 = st := ⟨_, rfl⟩
 obtain ⟨L, hL⟩ : ∃ L, rList dRate m s = L := ⟨_, rfl⟩
 have HST := Aside0.mk hst
 have HS := Aside0.mk h
 have HLQ := Aside0.mk h.lt
 have hq0 := h.q0
 have HCAP := Aside0.mk hcap
 have HLC := Aside0.mk hqc
 have HLC2 := Aside0.mk (blk_lt hcap)
 have hdef : rList dRate m s = if 0 ≤ st.1 ∧ st.1 ≤ m then rLoop dRate st.1.toNat (st.2, s.2) [] else ([], (st.2, true)) := by unfold rList; rw [hst]
 rw [hL] at hdef ⊢
 clear h; clear hL; clear hst; clear hcap; clear hqc
 by_cases c0 : st.1 < 0
 ·have c0b : decide (st.1 < 0) = true := decide_eq_true c0
  have HBAD : Aside0 (L = ([], (st.2, true))) := ⟨by rw [hdef, if_neg (by omega)]⟩
  clear hdef; clear c0
  go_enter Try.func57, Try.ntmps57
  go_wp2_with (first | (go_at_call 25; (with_reducible refine (int_s HST.out _ HS.out.rd).mono ?_); rintro e w1 ⟨rfl, hr, hp⟩; have HS1 := Aside0.mk (HS.out.puts hr hp); have HC1 := Aside0.mk (Ch.of_puts (S := fun k => k = p ∨ k = q) hp (Or.inl rfl)); have HP1 := Aside0.mk (HC1.out.keep HCAP.out (by have := HLC.out; have := HS.out.lo; rintro (h | h) <;> omega)); clear hr hp; have hq1 := HS1.out.q1; have hqf := blk_frozen HS1.out.rq 1))
  go_ret
  refine ⟨_, rfl, ?_, ?_, ?_⟩
  ·rw [HBAD.out]; exact Kd.R_nil _ _ _ _ _
  ·rw [HBAD.out]; exact HS1.out.setq true
  ·exact HC1.out.trans (Ch.set (S := fun k => k = p ∨ k = q) _ 1 _ (Or.inr rfl)) (fun _ _ h => h)
 ·have c0b : decide (st.1 < 0) = false := decide_eq_false c0
  by_cases c1 : m < st.1
  ·have c1b : decide (m < st.1) = true := decide_eq_true c1
   have HBAD : Aside0 (L = ([], (st.2, true))) := ⟨by rw [hdef, if_neg (by omega)]⟩
   clear hdef; clear c0; clear c1
   go_enter Try.func57, Try.ntmps57
   go_wp2_with (first | (go_at_call 25; (with_reducible refine (int_s HST.out _ HS.out.rd).mono ?_); rintro e w1 ⟨rfl, hr, hp⟩; have HS1 := Aside0.mk (HS.out.puts hr hp); have HC1 := Aside0.mk (Ch.of_puts (S := fun k => k = p ∨ k = q) hp (Or.inl rfl)); have HP1 := Aside0.mk (HC1.out.keep HCAP.out (by have := HLC.out; have := HS.out.lo; rintro (h | h) <;> omega)); clear hr hp; have hq1 := HS1.out.q1; have hqf := blk_frozen HS1.out.rq 1))
   go_ret
   refine ⟨_, rfl, ?_, ?_, ?_⟩
   ·rw [HBAD.out]; exact Kd.R_nil _ _ _ _ _
   ·rw [HBAD.out]; exact HS1.out.setq true
   ·exact HC1.out.trans (Ch.set (S := fun k => k = p ∨ k = q) _ 1 _ (Or.inr rfl)) (fun _ _ h => h)
  ·have c1b : decide (m < st.1) = false := decide_eq_false c1
   have HN : Aside0 (0 ≤ st.1 ∧ st.1 ≤ 16) := ⟨by omega⟩
   obtain ⟨T, hT⟩ : ∃ T, rLoop dRate st.1.toNat (st.2, s.2) [] = T := ⟨_, rfl⟩
   have HT := Aside0.mk hT
   have HOKE : Aside0 (L = T) := ⟨by rw [hdef, if_pos (by omega), hT]⟩
   clear hdef; clear c0; clear c1; clear hT
   go_enter Try.func57, Try.ntmps57
   go_wp2_with (first | (go_at_call 25; (with_reducible refine (int_s HST.out _ HS.out.rd).mono ?_); rintro e w1 ⟨rfl, hr, hp⟩; have HS1 := Aside0.mk (HS.out.puts hr hp); have HC1 := Aside0.mk (Ch.of_puts (S := fun k => k = p ∨ k = q) hp (Or.inl rfl)); have HP1 := Aside0.mk (HC1.out.keep HCAP.out (by have := HLC.out; have := HS.out.lo; rintro (h | h) <;> omega)); clear hr hp))
   go_loopg [26, 7] st.1.toNat (fun kq v26 v7 w' => ∃ (x26 : Int) (out : List S97) (si : RS), v26 = .int .i64 x26 ∧ Aside0 (x26 + kq = st.1 ∧ 0 ≤ x26 ∧ (out.length : Int) = x26) ∧ Aside0 (rLoop dRate kq si out = T) ∧ Aside0 (Kd.R k97 97 w' W.heap.size (fun k => W.heap.size ≤ k) v7 out) ∧ Aside0 (SR base p q si w') ∧ Aside0 (Ch (fun k => k = p ∨ k = q) W w') ∧ Aside0 (w'.heap[c]? = some (.cells #[.pointer (some ⟨q, 0, none⟩)] 104 (0, 0))))
   case atStart => exact ⟨0, [], (st.2, s.2), rfl, ⟨by have := HN.out; simp; omega⟩, HT, ⟨Kd.R_nil _ _ _ _ _⟩, HS1, HC1, HP1⟩
   case round =>
    clear HS1; clear HC1; clear HT; clear HP1
    obtain ⟨x26, out, si, rfl, HI, HT, HR, HSI, HCH, HCP⟩ := hrel
    by_cases d1 : x26 < st.1
    ·have d1b : decide (x26 < st.1) = true := decide_eq_true d1
     obtain ⟨k1, rfl⟩ : ∃ k1, gk = k1 + 1 := ⟨gk - 1, by have := HI.out; omega⟩
     obtain ⟨⟨x, sj⟩, hx⟩ : ∃ y, dRate si = y := ⟨_, rfl⟩
     have HX := Aside0.mk hx
     have HT2 : Aside0 (rLoop dRate k1 sj (out ++ [x]) = T) := ⟨by have := HT.out; rw [rLoop, hx] at this; exact this⟩
     have HOL : Aside0 (out.length ≤ 16) := ⟨by have := HI.out; have := HN.out; omega⟩
     have e26 : wrap64 (x26 + 1) = x26 + 1 := by have := HI.out; have := HN.out; unfold wrap64; omega
     have HSZ := Aside0.mk HCH.out.size
     have HON : Aside0 (One base p q c wr.heap.size #[.int .i64 0, .int .i64 0, .int .i64 0] 97 si (wr.alloc (.cells #[.int .i64 0, .int .i64 0, .int .i64 0] 97 (0, 0)))) := ⟨⟨HSI.out.below (below_alloc (Below.refl _ _) _), blk_below HCP.out (below_alloc (Below.refl _ _) _), heap_alloc_new wr _, ⟨HLC.out, HSI.out.lt, by have := blk_lt HCP.out; omega⟩⟩⟩
     clear d1; clear hx; clear HT
     go_wp2_with (first | (go_at_call 58; (with_reducible refine (one58' si x sj HX.out _ HON.out).mono ?_); rintro e w2 ⟨rfl, hg2, hs2, hc2⟩; have HC2 := Aside0.mk (HCH.out.trans (Ch.trans (Ch.of_below (S := fun k => k = p ∨ k = q ∨ k = wr.heap.size) (below_alloc (Below.refl wr.heap.size wr) (.cells #[.int .i64 0, .int .i64 0, .int .i64 0] 97 (0, 0)))) hc2 (fun _ _ h => h)) (fun k hk h => by rcases h with h | h | h; (exact Or.inl h); (exact Or.inr h); (exact absurd hk (by have := HCH.out.size; omega)))); have HR2 : Aside0 (Kd.R k97 97 w2 W.heap.size (fun k => W.heap.size ≤ k) u7 out) := ⟨Kd.R_step HR.out (fun k hk hlt => (hc2.block k (by simp; omega) (by have := HSI.out.lt; have := HSI.out.lo; have := HLQ.out; rintro (h | h | h) <;> omega)).trans (Below.heap_alloc wr _ k (by omega)))⟩; have HCP2 := Aside0.mk (hc2.keep (blk_below HCP.out (below_alloc (Below.refl _ _) _)) (by have := HLC.out; have := HSI.out.lo; have := blk_lt HCP.out; rintro (h | h | h) <;> omega)); have HS2 := Aside0.mk hs2; have HG2 := Aside0.mk hg2; have hz0 : World.cell? w2 ⟨wr.heap.size, 0, none⟩ = some (.int .i64 x.f0) := (blk_cell hg2 0).trans rfl; have hz1 : World.cell? w2 ⟨wr.heap.size, 1, none⟩ = some (.int .i64 x.f1) := (blk_cell hg2 1).trans rfl; have hz2 : World.cell? w2 ⟨wr.heap.size, 2, none⟩ = some (.int .i64 x.f2) := (blk_cell hg2 2).trans rfl; clear hg2 hs2 hc2 HCH HSI HR HCP HON; have HCH := HC2; clear HC2) | ((with_reducible refine gate_builtin (b := .append) (xs := #[.tmp 30, .tmp 32]) rfl ?_); at_builtin; refine Kd.R_append k97 (w0 := w2) W.heap.size rfl (.tmp 30) (.tmp 32) 64 97 (.agg #[.int .i64 0, .int .i64 0, .int .i64 0]) 24 rfl Try.underlying64 sinfo97 rfl (by decide) (by omega) u7 out x [.int .i64 x.f0, .int .i64 x.f1, .int .i64 x.f2] (fun k => W.heap.size ≤ k) (fun _ => False) rfl rfl ?aP (fun _ hk => hk.elim) ?aF ?aO ?aB ?aS ?aL ?_; (case aP => exact k97_mkM _ _ _ x); (case aF => exact (fun k hk => Nat.le_trans HCH.out.size hk)); (case aO => exact HR2.out); (case aB => exact Below.refl _ _); (case aS => exact HCH.out.size); (case aL => have := HOL.out; omega); intro v3 w3 ho hb hg hat; have HR3 := Aside0.mk ho; have HC3 := Aside0.mk (HCH.out.trans (Ch.of_grown (S := fun k => u7.ownBlock = some k) hg (fun _ h => h)) (fun k hk h => absurd (HR2.out.1 k h) (by omega))); have HS3 := Aside0.mk (HS2.out.ch (Ch.of_grown (S := fun k => u7.ownBlock = some k) hg (fun _ h => h)) (fun k h => by have := HR2.out.1 k h; have := HLQ.out; omega)); have HCP3 := Aside0.mk ((Ch.of_grown (S := fun k => u7.ownBlock = some k) hg (fun _ h => h)).keep HCP2.out (fun h => by have := HR2.out.1 c h; have := HLC2.out; omega)); clear ho hb hg hat))
     go_roundg k1
     case measure => omega
     case rel => exact ⟨x26 + 1, out ++ [x], sj, by rw [e26], ⟨by have := HI.out; simp; omega⟩, HT2, HR3, HS3, HC3, HCP3⟩
    ·have d1b : decide (x26 < st.1) = false := decide_eq_false d1
     have hk0 : gk = 0 := by have := HI.out; omega
     subst hk0
     have HT2 : (out, si) = T := HT.out
     clear d1; clear HT
     go_wp2
     go_ret
     refine ⟨_, rfl, ?_, ?_, HCH.out⟩
     ·rw [HOKE.out, ← HT2]; exact Kd.R_mono HR.out (fun _ _ => trivial)
     ·rw [HOKE.out, ← HT2]; exact HSI.out

theorem sinfo102 : (Try.prog.info? 102).map (fun i => (i.zero, i.size, i.bytes)) = some (some (.agg #[.int .i64 0, .int .i64 0]), 2, 16) := by kernel_rfl
theorem one75' {base p q c g : Nat} (s : RS) (x : S102) (s' : RS) (hx : dDraw s = (x, s')) (W : World) (h : One base p q c g #[.int .i64 0, .int .i64 0] 102 s W) :
  Calls Try.prog 75 #[.pointer (some ⟨g, 0, none⟩), .pointer (some ⟨c, 0, none⟩)] W fun e W' => e = .returned (.tuple #[]) ∧ W'.heap[g]? = some (.cells #[.int .i64 x.f0, .int .i64 x.f1] 102 (0, 0)) ∧ SR base p q s' W' ∧ Ch (fun k => k = p ∨ k = q ∨ k = g) W W' := by
 refine (one75 s W h).mono (fun e W' h => ?_)
 obtain ⟨h1, h2, h3, h4⟩ := h
 have e1 : x = (dDraw s).1 := by rw [hx]
 have e2 : s' = (dDraw s).2 := by rw [hx]
 subst e1; subst e2
 exact ⟨h1, h2, h3, h4.mono (fun k hk => hk.elim Or.inl (fun h => Or.inr (Or.inr h)))⟩
set_option maxHeartbeats 8000000 in
set_option maxRecDepth 100000 in
theorem list74 {base p q c : Nat} (s : RS) (m : Int) (W : World) (h : SR base p q s W) (hcap : W.heap[c]? = some (.cells #[.pointer (some ⟨q, 0, none⟩)] 104 (0, 0))) (hqc : q < c) (hm : 0 ≤ m ∧ m ≤ 16) :
  Calls Try.prog 74 #[.pointer (some ⟨q, 0, none⟩), .int .i64 m, .func (.func 75) #[] #[.pointer (some ⟨c, 0, none⟩)]] W fun e W' => ∃ v, e = .returned v ∧ Kd.R k102 102 W' W.heap.size (fun _ => True) v (rList dDraw m s).1 ∧ SR base p q (rList dDraw m s).2 W' ∧ Ch (fun k => k = p ∨ k = q) W W' := by
 obtain ⟨st, hst⟩ : ∃ st, rInt s.1 = st := ⟨_, rfl⟩
 obtain ⟨L, hL⟩ : ∃ L, rList dDraw m s = L := ⟨_, rfl⟩
 have HST := Aside0.mk hst
 have HS := Aside0.mk h
 have HLQ := Aside0.mk h.lt
 have hq0 := h.q0
 have HCAP := Aside0.mk hcap
 have HLC := Aside0.mk hqc
 have HLC2 := Aside0.mk (blk_lt hcap)
 have hdef : rList dDraw m s = if 0 ≤ st.1 ∧ st.1 ≤ m then rLoop dDraw st.1.toNat (st.2, s.2) [] else ([], (st.2, true)) := by unfold rList; rw [hst]
 rw [hL] at hdef ⊢
 clear h; clear hL; clear hst; clear hcap; clear hqc
 by_cases c0 : st.1 < 0
 ·have c0b : decide (st.1 < 0) = true := decide_eq_true c0
  have HBAD : Aside0 (L = ([], (st.2, true))) := ⟨by rw [hdef, if_neg (by omega)]⟩
  clear hdef; clear c0
  go_enter Try.func74, Try.ntmps74
  go_wp2_with (first | (go_at_call 25; (with_reducible refine (int_s HST.out _ HS.out.rd).mono ?_); rintro e w1 ⟨rfl, hr, hp⟩; have HS1 := Aside0.mk (HS.out.puts hr hp); have HC1 := Aside0.mk (Ch.of_puts (S := fun k => k = p ∨ k = q) hp (Or.inl rfl)); have HP1 := Aside0.mk (HC1.out.keep HCAP.out (by have := HLC.out; have := HS.out.lo; rintro (h | h) <;> omega)); clear hr hp; have hq1 := HS1.out.q1; have hqf := blk_frozen HS1.out.rq 1))
  go_ret
  refine ⟨_, rfl, ?_, ?_, ?_⟩
  ·rw [HBAD.out]; exact Kd.R_nil _ _ _ _ _
  ·rw [HBAD.out]; exact HS1.out.setq true
  ·exact HC1.out.trans (Ch.set (S := fun k => k = p ∨ k = q) _ 1 _ (Or.inr rfl)) (fun _ _ h => h)
 ·have c0b : decide (st.1 < 0) = false := decide_eq_false c0
  by_cases c1 : m < st.1
  ·have c1b : decide (m < st.1) = true := decide_eq_true c1
   have HBAD : Aside0 (L = ([], (st.2, true))) := ⟨by rw [hdef, if_neg (by omega)]⟩
   clear hdef; clear c0; clear c1
   go_enter Try.func74, Try.ntmps74
   go_wp2_with (first | (go_at_call 25; (with_reducible refine (int_s HST.out _ HS.out.rd).mono ?_); rintro e w1 ⟨rfl, hr, hp⟩; have HS1 := Aside0.mk (HS.out.puts hr hp); have HC1 := Aside0.mk (Ch.of_puts (S := fun k => k = p ∨ k = q) hp (Or.inl rfl)); have HP1 := Aside0.mk (HC1.out.keep HCAP.out (by have := HLC.out; have := HS.out.lo; rintro (h | h) <;> omega)); clear hr hp; have hq1 := HS1.out.q1; have hqf := blk_frozen HS1.out.rq 1))
   go_ret
   refine ⟨_, rfl, ?_, ?_, ?_⟩
   ·rw [HBAD.out]; exact Kd.R_nil _ _ _ _ _
   ·rw [HBAD.out]; exact HS1.out.setq true
   ·exact HC1.out.trans (Ch.set (S := fun k => k = p ∨ k = q) _ 1 _ (Or.inr rfl)) (fun _ _ h => h)
  ·have c1b : decide (m < st.1) = false := decide_eq_false c1
   have HN : Aside0 (0 ≤ st.1 ∧ st.1 ≤ 16) := ⟨by omega⟩
   obtain ⟨T, hT⟩ : ∃ T, rLoop dDraw st.1.toNat (st.2, s.2) [] = T := ⟨_, rfl⟩
   have HT := Aside0.mk hT
   have HOKE : Aside0 (L = T) := ⟨by rw [hdef, if_pos (by omega), hT]⟩
   clear hdef; clear c0; clear c1; clear hT
   go_enter Try.func74, Try.ntmps74
   go_wp2_with (first | (go_at_call 25; (with_reducible refine (int_s HST.out _ HS.out.rd).mono ?_); rintro e w1 ⟨rfl, hr, hp⟩; have HS1 := Aside0.mk (HS.out.puts hr hp); have HC1 := Aside0.mk (Ch.of_puts (S := fun k => k = p ∨ k = q) hp (Or.inl rfl)); have HP1 := Aside0.mk (HC1.out.keep HCAP.out (by have := HLC.out; have := HS.out.lo; rintro (h | h) <;> omega)); clear hr hp))
   go_loopg [26, 7] st.1.toNat (fun kq v26 v7 w' => ∃ (x26 : Int) (out : List S102) (si : RS), v26 = .int .i64 x26 ∧ Aside0 (x26 + kq = st.1 ∧ 0 ≤ x26 ∧ (out.length : Int) = x26) ∧ Aside0 (rLoop dDraw kq si out = T) ∧ Aside0 (Kd.R k102 102 w' W.heap.size (fun k => W.heap.size ≤ k) v7 out) ∧ Aside0 (SR base p q si w') ∧ Aside0 (Ch (fun k => k = p ∨ k = q) W w') ∧ Aside0 (w'.heap[c]? = some (.cells #[.pointer (some ⟨q, 0, none⟩)] 104 (0, 0))))
   case atStart => exact ⟨0, [], (st.2, s.2), rfl, ⟨by have := HN.out; simp; omega⟩, HT, ⟨Kd.R_nil _ _ _ _ _⟩, HS1, HC1, HP1⟩
   case round =>
    clear HS1; clear HC1; clear HT; clear HP1
    obtain ⟨x26, out, si, rfl, HI, HT, HR, HSI, HCH, HCP⟩ := hrel
    by_cases d1 : x26 < st.1
    ·have d1b : decide (x26 < st.1) = true := decide_eq_true d1
     obtain ⟨k1, rfl⟩ : ∃ k1, gk = k1 + 1 := ⟨gk - 1, by have := HI.out; omega⟩
     obtain ⟨⟨x, sj⟩, hx⟩ : ∃ y, dDraw si = y := ⟨_, rfl⟩
     have HX := Aside0.mk hx
     have HT2 : Aside0 (rLoop dDraw k1 sj (out ++ [x]) = T) := ⟨by have := HT.out; rw [rLoop, hx] at this; exact this⟩
     have HOL : Aside0 (out.length ≤ 16) := ⟨by have := HI.out; have := HN.out; omega⟩
     have e26 : wrap64 (x26 + 1) = x26 + 1 := by have := HI.out; have := HN.out; unfold wrap64; omega
     have HSZ := Aside0.mk HCH.out.size
     have HON : Aside0 (One base p q c wr.heap.size #[.int .i64 0, .int .i64 0] 102 si (wr.alloc (.cells #[.int .i64 0, .int .i64 0] 102 (0, 0)))) := ⟨⟨HSI.out.below (below_alloc (Below.refl _ _) _), blk_below HCP.out (below_alloc (Below.refl _ _) _), heap_alloc_new wr _, ⟨HLC.out, HSI.out.lt, by have := blk_lt HCP.out; omega⟩⟩⟩
     clear d1; clear hx; clear HT
     go_wp2_with (first | (go_at_call 75; (with_reducible refine (one75' si x sj HX.out _ HON.out).mono ?_); rintro e w2 ⟨rfl, hg2, hs2, hc2⟩; have HC2 := Aside0.mk (HCH.out.trans (Ch.trans (Ch.of_below (S := fun k => k = p ∨ k = q ∨ k = wr.heap.size) (below_alloc (Below.refl wr.heap.size wr) (.cells #[.int .i64 0, .int .i64 0] 102 (0, 0)))) hc2 (fun _ _ h => h)) (fun k hk h => by rcases h with h | h | h; (exact Or.inl h); (exact Or.inr h); (exact absurd hk (by have := HCH.out.size; omega)))); have HR2 : Aside0 (Kd.R k102 102 w2 W.heap.size (fun k => W.heap.size ≤ k) u7 out) := ⟨Kd.R_step HR.out (fun k hk hlt => (hc2.block k (by simp; omega) (by have := HSI.out.lt; have := HSI.out.lo; have := HLQ.out; rintro (h | h | h) <;> omega)).trans (Below.heap_alloc wr _ k (by omega)))⟩; have HCP2 := Aside0.mk (hc2.keep (blk_below HCP.out (below_alloc (Below.refl _ _) _)) (by have := HLC.out; have := HSI.out.lo; have := blk_lt HCP.out; rintro (h | h | h) <;> omega)); have HS2 := Aside0.mk hs2; have HG2 := Aside0.mk hg2; have hz0 : World.cell? w2 ⟨wr.heap.size, 0, none⟩ = some (.int .i64 x.f0) := (blk_cell hg2 0).trans rfl; have hz1 : World.cell? w2 ⟨wr.heap.size, 1, none⟩ = some (.int .i64 x.f1) := (blk_cell hg2 1).trans rfl; clear hg2 hs2 hc2 HCH HSI HR HCP HON; have HCH := HC2; clear HC2) | ((with_reducible refine gate_builtin (b := .append) (xs := #[.tmp 30, .tmp 32]) rfl ?_); at_builtin; refine Kd.R_append k102 (w0 := w2) W.heap.size rfl (.tmp 30) (.tmp 32) 98 102 (.agg #[.int .i64 0, .int .i64 0]) 16 rfl Try.underlying98 sinfo102 rfl (by decide) (by omega) u7 out x [.int .i64 x.f0, .int .i64 x.f1] (fun k => W.heap.size ≤ k) (fun _ => False) rfl rfl ?aP (fun _ hk => hk.elim) ?aF ?aO ?aB ?aS ?aL ?_; (case aP => exact k102_mkM _ _ _ x); (case aF => exact (fun k hk => Nat.le_trans HCH.out.size hk)); (case aO => exact HR2.out); (case aB => exact Below.refl _ _); (case aS => exact HCH.out.size); (case aL => have := HOL.out; omega); intro v3 w3 ho hb hg hat; have HR3 := Aside0.mk ho; have HC3 := Aside0.mk (HCH.out.trans (Ch.of_grown (S := fun k => u7.ownBlock = some k) hg (fun _ h => h)) (fun k hk h => absurd (HR2.out.1 k h) (by omega))); have HS3 := Aside0.mk (HS2.out.ch (Ch.of_grown (S := fun k => u7.ownBlock = some k) hg (fun _ h => h)) (fun k h => by have := HR2.out.1 k h; have := HLQ.out; omega)); have HCP3 := Aside0.mk ((Ch.of_grown (S := fun k => u7.ownBlock = some k) hg (fun _ h => h)).keep HCP2.out (fun h => by have := HR2.out.1 c h; have := HLC2.out; omega)); clear ho hb hg hat))
     go_roundg k1
     case measure => omega
     case rel => exact ⟨x26 + 1, out ++ [x], sj, by rw [e26], ⟨by have := HI.out; simp; omega⟩, HT2, HR3, HS3, HC3, HCP3⟩
    ·have d1b : decide (x26 < st.1) = false := decide_eq_false d1
     have hk0 : gk = 0 := by have := HI.out; omega
     subst hk0
     have HT2 : (out, si) = T := HT.out
     clear d1; clear HT
     go_wp2
     go_ret
     refine ⟨_, rfl, ?_, ?_, HCH.out⟩
     ·rw [HOKE.out, ← HT2]; exact Kd.R_mono HR.out (fun _ _ => trivial)
     ·rw [HOKE.out, ← HT2]; exact HSI.out

theorem sinfo9 : (Try.prog.info? 9).map (fun i => (i.zero, i.size, i.bytes)) = some (some (.string (⟨#[]⟩ : ByteArray)), 1, 16) := by kernel_rfl
theorem one62' {base p q c g : Nat} (s : RS) (x : ByteArray) (s' : RS) (hx : dKey s = (x, s')) (W : World) (h : One base p q c g #[.string (⟨#[]⟩ : ByteArray)] 9 s W) :
  Calls Try.prog 62 #[.pointer (some ⟨g, 0, none⟩), .pointer (some ⟨c, 0, none⟩)] W fun e W' => e = .returned (.tuple #[]) ∧ W'.heap[g]? = some (.cells #[.string x] 9 (0, 0)) ∧ SR base p q s' W' ∧ Ch (fun k => k = p ∨ k = q ∨ k = g) W W' := by
 refine (one62 s W h).mono (fun e W' h => ?_)
 obtain ⟨h1, h2, h3, h4⟩ := h
 have e1 : x = (dKey s).1 := by rw [hx]
 have e2 : s' = (dKey s).2 := by rw [hx]
 subst e1; subst e2
 exact ⟨h1, h2, h3, h4.mono (fun k hk => hk.elim Or.inl (fun h => Or.inr (Or.inr h)))⟩
set_option maxHeartbeats 8000000 in
set_option maxRecDepth 100000 in
theorem list61 {base p q c : Nat} (s : RS) (m : Int) (W : World) (h : SR base p q s W) (hcap : W.heap[c]? = some (.cells #[.pointer (some ⟨q, 0, none⟩)] 104 (0, 0))) (hqc : q < c) (hm : 0 ≤ m ∧ m ≤ 16) :
  Calls Try.prog 61 #[.pointer (some ⟨q, 0, none⟩), .int .i64 m, .func (.func 62) #[] #[.pointer (some ⟨c, 0, none⟩)]] W fun e W' => ∃ v, e = .returned v ∧ Kd.R Kd.string 9 W' W.heap.size (fun _ => True) v (rList dKey m s).1 ∧ SR base p q (rList dKey m s).2 W' ∧ Ch (fun k => k = p ∨ k = q) W W' := by
 obtain ⟨st, hst⟩ : ∃ st, rInt s.1 = st := ⟨_, rfl⟩
 obtain ⟨L, hL⟩ : ∃ L, rList dKey m s = L := ⟨_, rfl⟩
 have HST := Aside0.mk hst
 have HS := Aside0.mk h
 have HLQ := Aside0.mk h.lt
 have hq0 := h.q0
 have HCAP := Aside0.mk hcap
 have HLC := Aside0.mk hqc
 have HLC2 := Aside0.mk (blk_lt hcap)
 have hdef : rList dKey m s = if 0 ≤ st.1 ∧ st.1 ≤ m then rLoop dKey st.1.toNat (st.2, s.2) [] else ([], (st.2, true)) := by unfold rList; rw [hst]
 rw [hL] at hdef ⊢
 clear h; clear hL; clear hst; clear hcap; clear hqc
 by_cases c0 : st.1 < 0
 ·have c0b : decide (st.1 < 0) = true := decide_eq_true c0
  have HBAD : Aside0 (L = ([], (st.2, true))) := ⟨by rw [hdef, if_neg (by omega)]⟩
  clear hdef; clear c0
  go_enter Try.func61, Try.ntmps61
  go_wp2_with (first | (go_at_call 25; (with_reducible refine (int_s HST.out _ HS.out.rd).mono ?_); rintro e w1 ⟨rfl, hr, hp⟩; have HS1 := Aside0.mk (HS.out.puts hr hp); have HC1 := Aside0.mk (Ch.of_puts (S := fun k => k = p ∨ k = q) hp (Or.inl rfl)); have HP1 := Aside0.mk (HC1.out.keep HCAP.out (by have := HLC.out; have := HS.out.lo; rintro (h | h) <;> omega)); clear hr hp; have hq1 := HS1.out.q1; have hqf := blk_frozen HS1.out.rq 1))
  go_ret
  refine ⟨_, rfl, ?_, ?_, ?_⟩
  ·rw [HBAD.out]; exact Kd.R_nil _ _ _ _ _
  ·rw [HBAD.out]; exact HS1.out.setq true
  ·exact HC1.out.trans (Ch.set (S := fun k => k = p ∨ k = q) _ 1 _ (Or.inr rfl)) (fun _ _ h => h)
 ·have c0b : decide (st.1 < 0) = false := decide_eq_false c0
  by_cases c1 : m < st.1
  ·have c1b : decide (m < st.1) = true := decide_eq_true c1
   have HBAD : Aside0 (L = ([], (st.2, true))) := ⟨by rw [hdef, if_neg (by omega)]⟩
   clear hdef; clear c0; clear c1
   go_enter Try.func61, Try.ntmps61
   go_wp2_with (first | (go_at_call 25; (with_reducible refine (int_s HST.out _ HS.out.rd).mono ?_); rintro e w1 ⟨rfl, hr, hp⟩; have HS1 := Aside0.mk (HS.out.puts hr hp); have HC1 := Aside0.mk (Ch.of_puts (S := fun k => k = p ∨ k = q) hp (Or.inl rfl)); have HP1 := Aside0.mk (HC1.out.keep HCAP.out (by have := HLC.out; have := HS.out.lo; rintro (h | h) <;> omega)); clear hr hp; have hq1 := HS1.out.q1; have hqf := blk_frozen HS1.out.rq 1))
   go_ret
   refine ⟨_, rfl, ?_, ?_, ?_⟩
   ·rw [HBAD.out]; exact Kd.R_nil _ _ _ _ _
   ·rw [HBAD.out]; exact HS1.out.setq true
   ·exact HC1.out.trans (Ch.set (S := fun k => k = p ∨ k = q) _ 1 _ (Or.inr rfl)) (fun _ _ h => h)
  ·have c1b : decide (m < st.1) = false := decide_eq_false c1
   have HN : Aside0 (0 ≤ st.1 ∧ st.1 ≤ 16) := ⟨by omega⟩
   obtain ⟨T, hT⟩ : ∃ T, rLoop dKey st.1.toNat (st.2, s.2) [] = T := ⟨_, rfl⟩
   have HT := Aside0.mk hT
   have HOKE : Aside0 (L = T) := ⟨by rw [hdef, if_pos (by omega), hT]⟩
   clear hdef; clear c0; clear c1; clear hT
   go_enter Try.func61, Try.ntmps61
   go_wp2_with (first | (go_at_call 25; (with_reducible refine (int_s HST.out _ HS.out.rd).mono ?_); rintro e w1 ⟨rfl, hr, hp⟩; have HS1 := Aside0.mk (HS.out.puts hr hp); have HC1 := Aside0.mk (Ch.of_puts (S := fun k => k = p ∨ k = q) hp (Or.inl rfl)); have HP1 := Aside0.mk (HC1.out.keep HCAP.out (by have := HLC.out; have := HS.out.lo; rintro (h | h) <;> omega)); clear hr hp))
   go_loopg [26, 7] st.1.toNat (fun kq v26 v7 w' => ∃ (x26 : Int) (out : List ByteArray) (si : RS), v26 = .int .i64 x26 ∧ Aside0 (x26 + kq = st.1 ∧ 0 ≤ x26 ∧ (out.length : Int) = x26) ∧ Aside0 (rLoop dKey kq si out = T) ∧ Aside0 (Kd.R Kd.string 9 w' W.heap.size (fun k => W.heap.size ≤ k) v7 out) ∧ Aside0 (SR base p q si w') ∧ Aside0 (Ch (fun k => k = p ∨ k = q) W w') ∧ Aside0 (w'.heap[c]? = some (.cells #[.pointer (some ⟨q, 0, none⟩)] 104 (0, 0))))
   case atStart => exact ⟨0, [], (st.2, s.2), rfl, ⟨by have := HN.out; simp; omega⟩, HT, ⟨Kd.R_nil _ _ _ _ _⟩, HS1, HC1, HP1⟩
   case round =>
    clear HS1; clear HC1; clear HT; clear HP1
    obtain ⟨x26, out, si, rfl, HI, HT, HR, HSI, HCH, HCP⟩ := hrel
    by_cases d1 : x26 < st.1
    ·have d1b : decide (x26 < st.1) = true := decide_eq_true d1
     obtain ⟨k1, rfl⟩ : ∃ k1, gk = k1 + 1 := ⟨gk - 1, by have := HI.out; omega⟩
     obtain ⟨⟨x, sj⟩, hx⟩ : ∃ y, dKey si = y := ⟨_, rfl⟩
     have HX := Aside0.mk hx
     have HT2 : Aside0 (rLoop dKey k1 sj (out ++ [x]) = T) := ⟨by have := HT.out; rw [rLoop, hx] at this; exact this⟩
     have HOL : Aside0 (out.length ≤ 16) := ⟨by have := HI.out; have := HN.out; omega⟩
     have e26 : wrap64 (x26 + 1) = x26 + 1 := by have := HI.out; have := HN.out; unfold wrap64; omega
     have HSZ := Aside0.mk HCH.out.size
     have HON : Aside0 (One base p q c wr.heap.size #[.string (⟨#[]⟩ : ByteArray)] 9 si (wr.alloc (.cells #[.string (⟨#[]⟩ : ByteArray)] 9 (0, 0)))) := ⟨⟨HSI.out.below (below_alloc (Below.refl _ _) _), blk_below HCP.out (below_alloc (Below.refl _ _) _), heap_alloc_new wr _, ⟨HLC.out, HSI.out.lt, by have := blk_lt HCP.out; omega⟩⟩⟩
     clear d1; clear hx; clear HT
     go_wp2_with (first | (go_at_call 62; (with_reducible refine (one62' si x sj HX.out _ HON.out).mono ?_); rintro e w2 ⟨rfl, hg2, hs2, hc2⟩; have HC2 := Aside0.mk (HCH.out.trans (Ch.trans (Ch.of_below (S := fun k => k = p ∨ k = q ∨ k = wr.heap.size) (below_alloc (Below.refl wr.heap.size wr) (.cells #[.string (⟨#[]⟩ : ByteArray)] 9 (0, 0)))) hc2 (fun _ _ h => h)) (fun k hk h => by rcases h with h | h | h; (exact Or.inl h); (exact Or.inr h); (exact absurd hk (by have := HCH.out.size; omega)))); have HR2 : Aside0 (Kd.R Kd.string 9 w2 W.heap.size (fun k => W.heap.size ≤ k) u7 out) := ⟨Kd.R_step HR.out (fun k hk hlt => (hc2.block k (by simp; omega) (by have := HSI.out.lt; have := HSI.out.lo; have := HLQ.out; rintro (h | h | h) <;> omega)).trans (Below.heap_alloc wr _ k (by omega)))⟩; have HCP2 := Aside0.mk (hc2.keep (blk_below HCP.out (below_alloc (Below.refl _ _) _)) (by have := HLC.out; have := HSI.out.lo; have := blk_lt HCP.out; rintro (h | h | h) <;> omega)); have HS2 := Aside0.mk hs2; have HG2 := Aside0.mk hg2; have hz0 : World.cell? w2 ⟨wr.heap.size, 0, none⟩ = some (.string x) := (blk_cell hg2 0).trans rfl; clear hg2 hs2 hc2 HCH HSI HR HCP HON; have HCH := HC2; clear HC2) | ((with_reducible refine gate_builtin (b := .append) (xs := #[.tmp 30, .tmp 32]) rfl ?_); at_builtin; refine Kd.R_append Kd.string (w0 := w2) W.heap.size rfl (.tmp 30) (.tmp 32) 43 9 (.string (⟨#[]⟩ : ByteArray)) 16 rfl Try.underlying43 sinfo9 rfl (by decide) (by omega) u7 out x [.string x] (fun k => W.heap.size ≤ k) (fun _ => False) rfl rfl ?aP (fun _ hk => hk.elim) ?aF ?aO ?aB ?aS ?aL ?_; (case aP => exact rfl); (case aF => exact (fun k hk => Nat.le_trans HCH.out.size hk)); (case aO => exact HR2.out); (case aB => exact Below.refl _ _); (case aS => exact HCH.out.size); (case aL => have := HOL.out; omega); intro v3 w3 ho hb hg hat; have HR3 := Aside0.mk ho; have HC3 := Aside0.mk (HCH.out.trans (Ch.of_grown (S := fun k => u7.ownBlock = some k) hg (fun _ h => h)) (fun k hk h => absurd (HR2.out.1 k h) (by omega))); have HS3 := Aside0.mk (HS2.out.ch (Ch.of_grown (S := fun k => u7.ownBlock = some k) hg (fun _ h => h)) (fun k h => by have := HR2.out.1 k h; have := HLQ.out; omega)); have HCP3 := Aside0.mk ((Ch.of_grown (S := fun k => u7.ownBlock = some k) hg (fun _ h => h)).keep HCP2.out (fun h => by have := HR2.out.1 c h; have := HLC2.out; omega)); clear ho hb hg hat))
     go_roundg k1
     case measure => omega
     case rel => exact ⟨x26 + 1, out ++ [x], sj, by rw [e26], ⟨by have := HI.out; simp; omega⟩, HT2, HR3, HS3, HC3, HCP3⟩
    ·have d1b : decide (x26 < st.1) = false := decide_eq_false d1
     have hk0 : gk = 0 := by have := HI.out; omega
     subst hk0
     have HT2 : (out, si) = T := HT.out
     clear d1; clear HT
     go_wp2
     go_ret
     refine ⟨_, rfl, ?_, ?_, HCH.out⟩
     ·rw [HOKE.out, ← HT2]; exact Kd.R_mono HR.out (fun _ _ => trivial)
     ·rw [HOKE.out, ← HT2]; exact HSI.out
def dJob (s : RS) : S100 × RS := (⟨(rInts 11 s.1).1.getD 0 0, (rInts 11 s.1).1.getD 1 0, (rInts 11 s.1).1.getD 2 0, (rInts 11 s.1).1.getD 3 0, (rInts 11 s.1).1.getD 4 0, (rInts 11 s.1).1.getD 5 0, (rInts 11 s.1).1.getD 6 0, (rInts 11 s.1).1.getD 7 0, (rInts 11 s.1).1.getD 8 0, (rInts 11 s.1).1.getD 9 0, (rInts 11 s.1).1.getD 10 0, (rList dDraw 16 ((rInts 11 s.1).2, s.2)).1⟩, (rList dDraw 16 ((rInts 11 s.1).2, s.2)).2)
theorem rInts_len : ∀ (n : Nat) (s : List Int × Bool), (rInts n s).1.length = n
 | 0, s => rfl
 | n + 1, s => by rw [rInts, List.length_cons, rInts_len n]
theorem eleven (l : List Int) (h : l.length = 11) : ∃ y0 y1 y2 y3 y4 y5 y6 y7 y8 y9 y10, l = [y0, y1, y2, y3, y4, y5, y6, y7, y8, y9, y10] := by
 match l, h with
 | [y0, y1, y2, y3, y4, y5, y6, y7, y8, y9, y10], _ => exact ⟨_, _, _, _, _, _, _, _, _, _, _, rfl⟩
theorem put11 (y0 y1 y2 y3 y4 y5 y6 y7 y8 y9 y10 : Int) (v : Value) : putN #[.int .i64 0, .int .i64 0, .int .i64 0, .int .i64 0, .int .i64 0, .int .i64 0, .int .i64 0, .int .i64 0, .int .i64 0, .int .i64 0, .int .i64 0, v] 0 [y0, y1, y2, y3, y4, y5, y6, y7, y8, y9, y10] = #[.int .i64 y0, .int .i64 y1, .int .i64 y2, .int .i64 y3, .int .i64 y4, .int .i64 y5, .int .i64 y6, .int .i64 y7, .int .i64 y8, .int .i64 y9, .int .i64 y10, v] := by simp [putN]
def One60.T1 : Bool × List (List Nat × List Nat) := (true, [([], []), ([], []), ([1], [1]), ([2], [2]), ([], []), ([4], [4]), ([5], [5]), ([], []), ([7], [7]), ([8], [8]), ([], []), ([10], [10]), ([11], [11]), ([], []), ([13], [13]), ([14], [14]), ([], []), ([16], [16]), ([17], [17]), ([], []), ([19], [19]), ([20], [20]), ([], []), ([22], [22]), ([23], [23]), ([], []), ([25], [25]), ([26], [26]), ([], []), ([28], [28]), ([29], [29]), ([], []), ([31], [31]), ([32], [32]), ([3, 6, 9, 12, 15, 18, 21, 24, 27, 30, 33], [3, 6, 9, 12, 15, 18, 21, 24, 27, 30, 33]), ([0, 34], [0, 34])])
def One60.B1 : List Nat := [0, 0, 2, 6, 0, 16, 48, 0, 128, 384, 0, 1024, 3072, 0, 8192, 24576, 0, 65536, 196608, 0, 524288, 1572864, 0, 4194304, 12582912, 0, 33554432, 100663296, 0, 268435456, 805306368, 0, 2147483648, 6442450944, 17179869182, 34359738367]
theorem One60.tab1 : rtab .any (opsOf Try.f60 1) = One60.T1 := by kernel_rfl
theorem One60.bits1 : waitsOk One60.T1.2 One60.B1 = true := by kernel_rfl

set_option maxHeartbeats 2000000 in
set_option maxRecDepth 100000 in
theorem one60 {base p q : Nat} (s : RS) (x : S100) (s' : RS) (hx : dJob s = (x, s')) (g : Nat) (W : World) (h : SR base p q s W) (hqg : q < g) (hg : W.heap[g]? = some (.cells #[.int .i64 0, .int .i64 0, .int .i64 0, .int .i64 0, .int .i64 0, .int .i64 0, .int .i64 0, .int .i64 0, .int .i64 0, .int .i64 0, .int .i64 0, .slice none 0 0] 100 (0, 0))) :
  Calls Try.prog 60 #[.pointer (some ⟨q, 0, none⟩), .pointer (some ⟨g, 0, none⟩)] W fun e W' => ∃ v11, e = .returned (.tuple #[]) ∧ W'.heap[g]? = some (.cells #[.int .i64 x.f0, .int .i64 x.f1, .int .i64 x.f2, .int .i64 x.f3, .int .i64 x.f4, .int .i64 x.f5, .int .i64 x.f6, .int .i64 x.f7, .int .i64 x.f8, .int .i64 x.f9, .int .i64 x.f10, v11] 100 (0, 0)) ∧ Kd.R k102 102 W' W.heap.size (fun _ => True) v11 x.f11 ∧ SR base p q s' W' ∧ Ch (fun k => k = p ∨ k = q ∨ k = g) W W' := by
 obtain ⟨y0, y1, y2, y3, y4, y5, y6, y7, y8, y9, y10, hy⟩ := eleven _ (rInts_len 11 s.1)
 obtain ⟨tl, htl⟩ : ∃ tl, (rInts 11 s.1).2 = tl := ⟨_, rfl⟩
 have e1 : (x, s') = ((⟨y0, y1, y2, y3, y4, y5, y6, y7, y8, y9, y10, (rList dDraw 16 (tl, s.2)).1⟩ : S100), (rList dDraw 16 (tl, s.2)).2) := by
  rw [← hx]; unfold dJob; rw [hy, htl]; rfl
 have HY := Aside0.mk hy
 have HTT := Aside0.mk htl
 injection e1 with e1 e2
 subst e1; subst e2
 clear hx; clear hy; clear htl
 have HD : Aside0 (One base p q W.heap.size g #[.int .i64 0, .int .i64 0, .int .i64 0, .int .i64 0, .int .i64 0, .int .i64 0, .int .i64 0, .int .i64 0, .int .i64 0, .int .i64 0, .int .i64 0, .slice none 0 0] 100 s (W.alloc (.cells #[.pointer (some ⟨q, 0, none⟩)] 104 (0, 0)))) := ⟨⟨h.below (below_alloc (Below.refl _ _) _), heap_alloc_new W _, blk_below hg (below_alloc (Below.refl _ _) _), ⟨h.lt, hqg, by have := blk_lt hg; omega⟩⟩⟩
 have HCH : Aside0 (Ch (fun k => k = p ∨ k = q ∨ k = g) W (W.alloc (.cells #[.pointer (some ⟨q, 0, none⟩)] 104 (0, 0)))) := ⟨Ch.of_below (below_alloc (Below.refl _ _) _)⟩
 have HGW := Aside0.mk (blk_lt hg)
 clear h; clear hg
 go_enter Try.func60, Try.ntmps60
 go_upto_region 1 with (fail)
 refine start_ (n := 36) (S := fun w' => w'.cell? ⟨W.heap.size, 0, none⟩ = some (.pointer (some ⟨q, 0, none⟩))) (ds := [35]) #[false, false, false, false, false, false, false, false, false, false, false, false, false, false, false, false, false, false, false, false, false, false, false, false, false, false, false, false, false, false, false, false, false, false, false, false] (by kernel_rfl) rfl rfl ((blk_cell (HD.out.go (below_drew (Below.refl _ _))).cap 0).trans rfl) (fun hHeld => ?_); refine with_tabW One60.tab1 One60.bits1 (fun HT_ HW_ => ?_)
 have n_ := Aside0.mk (HD.out.go (below_drew (Below.refl _ _)))
 have m_ := Aside0.mk (HCH.out.trans (Ch.of_below (S := fun _ => False) (below_drew (Below.refl _ _))) (fun _ _ h => h.elim))
 clear HD; clear HCH
 have HD := n_
 have HCH := m_
 clear n_; clear m_
 generalize World.drew _ = wz at HD HCH hHeld ⊢
 refine plan_ [(0, 4)] ?_
 refine planT_ (v := ?_) (a' := ?_) rfl rfl (take_ofW HT_.out HW_.out (by kernel_rfl)) (fun _ _ _ h => h) (Or.inl ⟨by rfl, ?_⟩) hHeld ?_ ?_; rotate_left; (rintro w' hs_; go_simp; with_reducible rfl); rotate_left; (simp only [Act.put, List.setIfInBounds_toArray, List.set_cons_zero, List.set_cons_succ, i64_w, i32_w]; rfl)
 refine planEnd_ ?_
 refine plan_ [(1, 5), (2, 6), (3, 7), (4, 8), (5, 9), (6, 10), (7, 11), (8, 12), (9, 13), (10, 14), (11, 15), (12, 16), (13, 17), (14, 18), (15, 19), (16, 20), (17, 21), (18, 22), (19, 23), (20, 24), (21, 25), (22, 26), (23, 27), (24, 28), (25, 29), (26, 30), (27, 31), (28, 32), (29, 33), (30, 34), (31, 35), (32, 36), (33, 37)] ?_
 iterate 33 (refine planP_ (v := ?_) (a' := ?_) rfl rfl (any_of HT_.out (by kernel_rfl)) (fun _ _ _ h => h) (Or.inl ⟨by rfl, ?_⟩) ?_ ?_; rotate_left; (intro w'; go_simp; with_reducible rfl); rotate_left; (simp only [Act.put, List.setIfInBounds_toArray, List.set_cons_zero, List.set_cons_succ, i64_w, i32_w]; rfl))
 refine planEnd_ ?_
 refine one_ (i := 34) (N := some 38) #[true, true, true, true, true, true, true, true, true, true, true, true, true, true, true, true, true, true, true, true, true, true, true, true, true, true, true, true, true, true, true, true, true, true, true, false] rfl rfl (one_of HT_.out (by kernel_rfl)) (by decide) (fun K hK => ?_)
 refine ptrs_step ?hg (N := 38) ?hd (cells := #[.pointer (some ⟨g, 0, none⟩), .pointer (some ⟨g, 1, none⟩), .pointer (some ⟨g, 2, none⟩), .pointer (some ⟨g, 3, none⟩), .pointer (some ⟨g, 4, none⟩), .pointer (some ⟨g, 5, none⟩), .pointer (some ⟨g, 6, none⟩), .pointer (some ⟨g, 7, none⟩), .pointer (some ⟨g, 8, none⟩), .pointer (some ⟨g, 9, none⟩), .pointer (some ⟨g, 10, none⟩)]) (n := 11) ?hr ?_; (case hd => rfl); (case hg => rfl); (case hr => first | (go_simp; done) | (go_simp; rfl))
 intro t ht w2 ht2 hb2
 have HTQ : Aside0 (q < t ∧ g ≠ t) := ⟨by subst ht; exact ⟨HD.out.sr.lt, Nat.ne_of_lt (blk_lt HD.out.blk)⟩⟩
 have HPT : Aside0 (∀ i, i < 11 → (#[.pointer (some ⟨g, 0, none⟩), .pointer (some ⟨g, 1, none⟩), .pointer (some ⟨g, 2, none⟩), .pointer (some ⟨g, 3, none⟩), .pointer (some ⟨g, 4, none⟩), .pointer (some ⟨g, 5, none⟩), .pointer (some ⟨g, 6, none⟩), .pointer (some ⟨g, 7, none⟩), .pointer (some ⟨g, 8, none⟩), .pointer (some ⟨g, 9, none⟩), .pointer (some ⟨g, 10, none⟩)] : Array Value)[i]? = some (.pointer (some ⟨g, 0 + i, none⟩))) := ⟨by intro i hi; (have hi_ : i = 0 ∨ i = 1 ∨ i = 2 ∨ i = 3 ∨ i = 4 ∨ i = 5 ∨ i = 6 ∨ i = 7 ∨ i = 8 ∨ i = 9 ∨ i = 10 := by omega); rcases hi_ with rfl | rfl | rfl | rfl | rfl | rfl | rfl | rfl | rfl | rfl | rfl <;> rfl⟩
 have HSZ : Aside0 (0 + 11 ≤ (#[.int .i64 0, .int .i64 0, .int .i64 0, .int .i64 0, .int .i64 0, .int .i64 0, .int .i64 0, .int .i64 0, .int .i64 0, .int .i64 0, .int .i64 0, .slice none 0 0] : Array Value).size ∧ 11 ≤ 100) := ⟨by simp, by decide⟩
 have HT2 := Aside0.mk ht2
 have n_ := Aside0.mk (HD.out.go hb2)
 have m_ := Aside0.mk (HCH.out.trans (Ch.of_below (S := fun _ => False) hb2) (fun _ _ h => h.elim))
 clear HD; clear HCH; clear ht; clear ht2; clear hb2
 have HD := n_
 have HCH := m_
 clear n_; clear m_
 refine hK.out _ _ ((blk_cell HD.out.cap 0).trans rfl) (fun hHeld => ?_)
 clear hK; clear K
 refine norm_ (a' := ?_) ?_ ?_
 rotate_left
 ·show Act.put _ (some 38) _ = _
  simp only [Act.put, List.setIfInBounds_toArray, List.set_cons_zero, List.set_cons_succ, i64_w, i32_w]
  rfl
 refine last_ (i := 35) (N := some 39) #[true, true, true, true, true, true, true, true, true, true, true, true, true, true, true, true, true, true, true, true, true, true, true, true, true, true, true, true, true, true, true, true, true, true, true, true] rfl rfl (one_of HT_.out (by kernel_rfl)) (by decide) (fun K hK => ?_)
 refine goes_ Try.func52 (by kernel_rfl) rfl #[.pointer (some ⟨q, 0, none⟩), .slice (some ⟨t, 0, none⟩) 11 11] (by rfl) rfl rfl mt ?_
 with_reducible refine (get_f (g := g) (t := t) (n := 11) (o := 0) (ty := 100) (arr := #[.int .i64 0, .int .i64 0, .int .i64 0, .int .i64 0, .int .i64 0, .int .i64 0, .int .i64 0, .int .i64 0, .int .i64 0, .int .i64 0, .int .i64 0, .slice none 0 0]) (tarr := #[.pointer (some ⟨g, 0, none⟩), .pointer (some ⟨g, 1, none⟩), .pointer (some ⟨g, 2, none⟩), .pointer (some ⟨g, 3, none⟩), .pointer (some ⟨g, 4, none⟩), .pointer (some ⟨g, 5, none⟩), .pointer (some ⟨g, 6, none⟩), .pointer (some ⟨g, 7, none⟩), .pointer (some ⟨g, 8, none⟩), .pointer (some ⟨g, 9, none⟩), .pointer (some ⟨g, 10, none⟩)]) s _ HD.out.sr HD.out.lo.2.1 HTQ.out.2 HTQ.out.1 HD.out.blk HT2.out HPT.out HSZ.out.1 HSZ.out.2).mono ?_
 rintro e w3 ⟨rfl, hg3, hs3, hc3⟩; rw [HY.out, put11] at hg3; rw [HTT.out] at hs3; have G3 := Aside0.mk hg3; have S3 := Aside0.mk hs3; have K3 := Aside0.mk (HD.out.lo.1); have LL := Aside0.mk HD.out.lo; have C3 := Aside0.mk (hc3.keep HD.out.cap (by rintro (h | h) <;> (have := HD.out.lo; have := HD.out.sr.lo; omega))); have m_ := Aside0.mk (HCH.out.trans hc3 (fun _ _ h => h.elim Or.inl (fun h => Or.inr (Or.inr h)))); clear HCH HD hg3 hs3 hc3; have HCH := m_; clear m_
 refine ⟨_, rfl, ?_⟩
 refine hK.out _ _ ?_
 clear hK; clear K
 refine norm_ (a' := ?_) ?_ ?_
 rotate_left
 ·show Act.put _ (some 39) _ = _
  simp only [Act.put, List.setIfInBounds_toArray, List.set_cons_zero, List.set_cons_succ, i64_w, i32_w]
  rfl
 refine done_ (done_of HT_.out (by kernel_rfl)) ?_
 have hc0 : World.cell? w3 ⟨W.heap.size, 0, none⟩ = some (.pointer (some ⟨q, 0, none⟩)) := (blk_cell C3.out 0).trans rfl
 have HG3 : Aside0 (w3.heap[g]? = some (.cells #[.int .i64 y0, .int .i64 y1, .int .i64 y2, .int .i64 y3, .int .i64 y4, .int .i64 y5, .int .i64 y6, .int .i64 y7, .int .i64 y8, .int .i64 y9, .int .i64 y10, .slice none 0 0] 100 (0, 0))) := ⟨G3.out⟩
 clear G3
 go_wp2_with (first | (go_at_call 74; (with_reducible refine (list74 (tl, s.2) 16 _ S3.out C3.out K3.out (by decide)).mono ?_); rintro e w4 ⟨v11, rfl, hv, hs4, hc4⟩; obtain ⟨Av, cv, ev⟩ := Kd.R_slice hv; subst ev; have G4 := Aside0.mk (hc4.keep HG3.out (by have := LL.out; have := S3.out.lo; rintro (h | h) <;> omega)); have hgz : World.cell? w4 ⟨g, 11, none⟩ = some (.slice none 0 0) := (blk_cell G4.out 11).trans rfl; have hgf := blk_frozen G4.out 11; have HV := Aside0.mk hv; have HS4 := Aside0.mk hs4; have HC4 := Aside0.mk (HCH.out.trans hc4 (fun _ _ h => h.elim Or.inl (fun h => Or.inr (Or.inl h)))); have HZ3 := Aside0.mk HCH.out.size; clear hv hs4 hc4 HCH))
 go_end0
 refine ⟨_, rfl, blk_put G4.out 11 _ rfl, ?_, HS4.out.ch (Ch.set (S := fun k => k = g) _ _ _ rfl) (fun k hk => by have := LL.out; omega), HC4.out.trans (Ch.set (S := fun k => k = g) _ _ _ rfl) (fun _ _ h => Or.inr (Or.inr h))⟩
 exact Kd.R_mono (Kd.R_far (Kd.R_lower (Kd.R_mono (Kd.R_bound HV.out) (ok' := fun k => w3.heap.size ≤ k) (fun k hk => hk.2.1)) HZ3.out) (fun k hk => by have := HGW.out; have := HZ3.out; show k ≠ g; omega) _) (fun _ _ => trivial)

theorem sinfo100 : (Try.prog.info? 100).map (fun i => (i.zero, i.size, i.bytes)) = some (some (.agg #[(.int .i64 0), (.int .i64 0), (.int .i64 0), (.int .i64 0), (.int .i64 0), (.int .i64 0), (.int .i64 0), (.int .i64 0), (.int .i64 0), (.int .i64 0), (.int .i64 0), (.slice none 0 0)]), 12, 112) := by kernel_rfl
set_option maxHeartbeats 8000000 in
set_option maxRecDepth 100000 in
theorem list59 {base p q : Nat} (s : RS) (m : Int) (W : World) (h : SR base p q s W) (hm : 0 ≤ m ∧ m ≤ 16) :
  Calls Try.prog 59 #[.pointer (some ⟨q, 0, none⟩), .int .i64 m, .func (.func 60) #[.pointer (some ⟨q, 0, none⟩)] #[]] W fun e W' => ∃ v, e = .returned v ∧ Kd.R k100 100 W' W.heap.size (fun _ => True) v (rList dJob m s).1 ∧ SR base p q (rList dJob m s).2 W' ∧ Ch (fun k => k = p ∨ k = q) W W' := by
 obtain ⟨st, hst⟩ : ∃ st, rInt s.1 = st := ⟨_, rfl⟩
 obtain ⟨L, hL⟩ : ∃ L, rList dJob m s = L := ⟨_, rfl⟩
 have HST := Aside0.mk hst
 have HS := Aside0.mk h
 have HLQ := Aside0.mk h.lt
 have hq0 := h.q0
 have hdef : rList dJob m s = if 0 ≤ st.1 ∧ st.1 ≤ m then rLoop dJob st.1.toNat (st.2, s.2) [] else ([], (st.2, true)) := by unfold rList; rw [hst]
 rw [hL] at hdef ⊢
 clear h; clear hL; clear hst
 by_cases c0 : st.1 < 0
 ·have c0b : decide (st.1 < 0) = true := decide_eq_true c0
  have HBAD : Aside0 (L = ([], (st.2, true))) := ⟨by rw [hdef, if_neg (by omega)]⟩
  clear hdef; clear c0
  go_enter Try.func59, Try.ntmps59
  go_wp2_with (first | (go_at_call 25; (with_reducible refine (int_s HST.out _ HS.out.rd).mono ?_); rintro e w1 ⟨rfl, hr, hp⟩; have HS1 := Aside0.mk (HS.out.puts hr hp); have HC1 := Aside0.mk (Ch.of_puts (S := fun k => k = p ∨ k = q) hp (Or.inl rfl)); clear hr hp; have hq1 := HS1.out.q1; have hqf := blk_frozen HS1.out.rq 1))
  go_ret
  refine ⟨_, rfl, ?_, ?_, ?_⟩
  ·rw [HBAD.out]; exact Kd.R_nil _ _ _ _ _
  ·rw [HBAD.out]; exact HS1.out.setq true
  ·exact HC1.out.trans (Ch.set (S := fun k => k = p ∨ k = q) _ 1 _ (Or.inr rfl)) (fun _ _ h => h)
 ·have c0b : decide (st.1 < 0) = false := decide_eq_false c0
  by_cases c1 : m < st.1
  ·have c1b : decide (m < st.1) = true := decide_eq_true c1
   have HBAD : Aside0 (L = ([], (st.2, true))) := ⟨by rw [hdef, if_neg (by omega)]⟩
   clear hdef; clear c0; clear c1
   go_enter Try.func59, Try.ntmps59
   go_wp2_with (first | (go_at_call 25; (with_reducible refine (int_s HST.out _ HS.out.rd).mono ?_); rintro e w1 ⟨rfl, hr, hp⟩; have HS1 := Aside0.mk (HS.out.puts hr hp); have HC1 := Aside0.mk (Ch.of_puts (S := fun k => k = p ∨ k = q) hp (Or.inl rfl)); clear hr hp; have hq1 := HS1.out.q1; have hqf := blk_frozen HS1.out.rq 1))
   go_ret
   refine ⟨_, rfl, ?_, ?_, ?_⟩
   ·rw [HBAD.out]; exact Kd.R_nil _ _ _ _ _
   ·rw [HBAD.out]; exact HS1.out.setq true
   ·exact HC1.out.trans (Ch.set (S := fun k => k = p ∨ k = q) _ 1 _ (Or.inr rfl)) (fun _ _ h => h)
  ·have c1b : decide (m < st.1) = false := decide_eq_false c1
   have HN : Aside0 (0 ≤ st.1 ∧ st.1 ≤ 16) := ⟨by omega⟩
   obtain ⟨T, hT⟩ : ∃ T, rLoop dJob st.1.toNat (st.2, s.2) [] = T := ⟨_, rfl⟩
   have HT := Aside0.mk hT
   have HOKE : Aside0 (L = T) := ⟨by rw [hdef, if_pos (by omega), hT]⟩
   clear hdef; clear c0; clear c1; clear hT
   go_enter Try.func59, Try.ntmps59
   go_wp2_with (first | (go_at_call 25; (with_reducible refine (int_s HST.out _ HS.out.rd).mono ?_); rintro e w1 ⟨rfl, hr, hp⟩; have HS1 := Aside0.mk (HS.out.puts hr hp); have HC1 := Aside0.mk (Ch.of_puts (S := fun k => k = p ∨ k = q) hp (Or.inl rfl)); clear hr hp))
   go_loopg [26, 7] st.1.toNat (fun kq v26 v7 w' => ∃ (x26 : Int) (out : List S100) (si : RS), v26 = .int .i64 x26 ∧ Aside0 (x26 + kq = st.1 ∧ 0 ≤ x26 ∧ (out.length : Int) = x26) ∧ Aside0 (rLoop dJob kq si out = T) ∧ Aside0 (Kd.R k100 100 w' W.heap.size (fun k => W.heap.size ≤ k) v7 out) ∧ Aside0 (SR base p q si w') ∧ Aside0 (Ch (fun k => k = p ∨ k = q) W w'))
   case atStart => exact ⟨0, [], (st.2, s.2), rfl, ⟨by have := HN.out; simp; omega⟩, HT, ⟨Kd.R_nil _ _ _ _ _⟩, HS1, HC1⟩
   case round =>
    clear HS1; clear HC1; clear HT
    obtain ⟨x26, out, si, rfl, HI, HT, HR, HSI, HCH⟩ := hrel
    by_cases d1 : x26 < st.1
    ·have d1b : decide (x26 < st.1) = true := decide_eq_true d1
     obtain ⟨k1, rfl⟩ : ∃ k1, gk = k1 + 1 := ⟨gk - 1, by have := HI.out; omega⟩
     obtain ⟨⟨x, sj⟩, hx⟩ : ∃ y, dJob si = y := ⟨_, rfl⟩
     have HX := Aside0.mk hx
     have HT2 : Aside0 (rLoop dJob k1 sj (out ++ [x]) = T) := ⟨by have := HT.out; rw [rLoop, hx] at this; exact this⟩
     have HOL : Aside0 (out.length ≤ 16) := ⟨by have := HI.out; have := HN.out; omega⟩
     have e26 : wrap64 (x26 + 1) = x26 + 1 := by have := HI.out; have := HN.out; unfold wrap64; omega
     have HSZ := Aside0.mk HCH.out.size
     have HRW := HR
     clear d1; clear hx; clear HT
     go_wp2_with (first | (go_at_call 60; (with_reducible refine (one60 si x sj HX.out wr.heap.size _ (HSI.out.below (below_alloc (Below.refl _ _) _)) (by have := HSI.out.lt; omega) (heap_alloc_new wr _)).mono ?_); rintro e w2 ⟨v11, rfl, hg2, hv11, hs2, hc2⟩; have HC2 := Aside0.mk (HCH.out.trans (Ch.trans (Ch.of_below (S := fun k => k = p ∨ k = q ∨ k = wr.heap.size) (below_alloc (Below.refl wr.heap.size wr) (.cells #[.int .i64 0, .int .i64 0, .int .i64 0, .int .i64 0, .int .i64 0, .int .i64 0, .int .i64 0, .int .i64 0, .int .i64 0, .int .i64 0, .int .i64 0, .slice none 0 0] 100 (0, 0)))) hc2 (fun _ _ h => h)) (fun k hk h => by rcases h with h | h | h; (exact Or.inl h); (exact Or.inr h); (exact absurd hk (by have := HCH.out.size; omega)))); have HR2 : Aside0 (Kd.R k100 100 w2 W.heap.size (fun k => W.heap.size ≤ k) u7 out) := ⟨Kd.R_step HR.out (fun k hk hlt => (hc2.block k (by simp; omega) (by have := HSI.out.lt; have := HSI.out.lo; have := HLQ.out; rintro (h | h | h) <;> omega)).trans (Below.heap_alloc wr _ k (by omega)))⟩; have HV11 := Aside0.mk hv11; have HS2 := Aside0.mk hs2; have HG2 := Aside0.mk hg2; have hz0 : World.cell? w2 ⟨wr.heap.size, 0, none⟩ = some (.int .i64 x.f0) := (blk_cell hg2 0).trans rfl; have hz1 : World.cell? w2 ⟨wr.heap.size, 1, none⟩ = some (.int .i64 x.f1) := (blk_cell hg2 1).trans rfl; have hz2 : World.cell? w2 ⟨wr.heap.size, 2, none⟩ = some (.int .i64 x.f2) := (blk_cell hg2 2).trans rfl; have hz3 : World.cell? w2 ⟨wr.heap.size, 3, none⟩ = some (.int .i64 x.f3) := (blk_cell hg2 3).trans rfl; have hz4 : World.cell? w2 ⟨wr.heap.size, 4, none⟩ = some (.int .i64 x.f4) := (blk_cell hg2 4).trans rfl; have hz5 : World.cell? w2 ⟨wr.heap.size, 5, none⟩ = some (.int .i64 x.f5) := (blk_cell hg2 5).trans rfl; have hz6 : World.cell? w2 ⟨wr.heap.size, 6, none⟩ = some (.int .i64 x.f6) := (blk_cell hg2 6).trans rfl; have hz7 : World.cell? w2 ⟨wr.heap.size, 7, none⟩ = some (.int .i64 x.f7) := (blk_cell hg2 7).trans rfl; have hz8 : World.cell? w2 ⟨wr.heap.size, 8, none⟩ = some (.int .i64 x.f8) := (blk_cell hg2 8).trans rfl; have hz9 : World.cell? w2 ⟨wr.heap.size, 9, none⟩ = some (.int .i64 x.f9) := (blk_cell hg2 9).trans rfl; have hz10 : World.cell? w2 ⟨wr.heap.size, 10, none⟩ = some (.int .i64 x.f10) := (blk_cell hg2 10).trans rfl; have hz11 : World.cell? w2 ⟨wr.heap.size, 11, none⟩ = some (v11) := (blk_cell hg2 11).trans rfl; clear hg2 hs2 hc2 hv11 HCH HSI HR; have HCH := HC2; clear HC2) | ((with_reducible refine gate_builtin (b := .append) (xs := #[.tmp 30, .tmp 32]) rfl ?_); at_builtin; refine Kd.R_append k100 (w0 := w2) W.heap.size rfl (.tmp 30) (.tmp 32) 65 100 (.agg #[(.int .i64 0), (.int .i64 0), (.int .i64 0), (.int .i64 0), (.int .i64 0), (.int .i64 0), (.int .i64 0), (.int .i64 0), (.int .i64 0), (.int .i64 0), (.int .i64 0), (.slice none 0 0)]) 112 rfl Try.underlying65 sinfo100 rfl (by decide) (by omega) u7 out x [.int .i64 x.f0, .int .i64 x.f1, .int .i64 x.f2, .int .i64 x.f3, .int .i64 x.f4, .int .i64 x.f5, .int .i64 x.f6, .int .i64 x.f7, .int .i64 x.f8, .int .i64 x.f9, .int .i64 x.f10, v11] (fun k => W.heap.size ≤ k) (fun k => (wr.alloc (.cells #[.int .i64 0, .int .i64 0, .int .i64 0, .int .i64 0, .int .i64 0, .int .i64 0, .int .i64 0, .int .i64 0, .int .i64 0, .int .i64 0, .int .i64 0, .slice none 0 0] 100 (0, 0))).heap.size ≤ k) rfl rfl ?aP (fun k hk => ⟨by have := HSZ.out; simp at hk; omega, fun he => by have := Kd.R_lt HRW.out k he.symm; simp at hk; omega⟩) ?aF ?aO ?aB ?aS ?aL ?_; (case aP => exact k100_mkM _ _ _ x (Kd.R_lower (Kd.R_mono (Kd.R_bound HV11.out) (fun k hk => hk.2.1)) (by have := HSZ.out; simp; omega))); (case aF => exact (fun k hk => Nat.le_trans HCH.out.size hk)); (case aO => exact HR2.out); (case aB => exact Below.refl _ _); (case aS => exact HCH.out.size); (case aL => have := HOL.out; omega); intro v3 w3 ho hb hg hat; have HR3 := Aside0.mk ho; have HC3 := Aside0.mk (HCH.out.trans (Ch.of_grown (S := fun k => u7.ownBlock = some k) hg (fun _ h => h)) (fun k hk h => absurd (HR2.out.1 k h) (by omega))); have HS3 := Aside0.mk (HS2.out.ch (Ch.of_grown (S := fun k => u7.ownBlock = some k) hg (fun _ h => h)) (fun k h => by have := HR2.out.1 k h; have := HLQ.out; omega)); clear ho hb hg hat))
     go_roundg k1
     case measure => omega
     case rel => exact ⟨x26 + 1, out ++ [x], sj, by rw [e26], ⟨by have := HI.out; simp; omega⟩, HT2, HR3, HS3, HC3⟩
    ·have d1b : decide (x26 < st.1) = false := decide_eq_false d1
     have hk0 : gk = 0 := by have := HI.out; omega
     subst hk0
     have HT2 : (out, si) = T := HT.out
     clear d1; clear HT
     go_wp2
     go_ret
     refine ⟨_, rfl, ?_, ?_, HCH.out⟩
     ·rw [HOKE.out, ← HT2]; exact Kd.R_mono HR.out (fun _ _ => trivial)
     ·rw [HOKE.out, ← HT2]; exact HSI.out

structure DecT (w : World) (gr gb base p q c : Nat) (s : RS) (a0 a1 a2 : Int) (v3 v4 v5 v6 v7 : Value) (x3 : List S93) (x4 : List S95) (x5 : List S97) (x6 : List S100) (x7 : List ByteArray) (W : World) : Prop where
 res : W.heap[gr]? = some (.cells #[.int .i64 0, .int .i64 0, .int .i64 0, .slice none 0 0, .slice none 0 0, .slice none 0 0, .slice none 0 0, .slice none 0 0] 67 (0, 0))
 blk : W.heap[gb]? = some (.cells #[.int .i64 a0, .int .i64 a1, .int .i64 a2, v3, v4, v5, v6, v7] 67 (0, 0))
 sr : SR base p q s W
 cap : W.heap[c]? = some (.cells #[.pointer (some ⟨q, 0, none⟩)] 104 (0, 0))
 o3 : Kd.R k93 93 W w.heap.size (fun k => gb < k) v3 x3
 o4 : Kd.R k95 95 W w.heap.size (fun k => gb < k) v4 x4
 o5 : Kd.R k97 97 W w.heap.size (fun k => gb < k) v5 x5
 o6 : Kd.R k100 100 W w.heap.size (fun k => gb < k) v6 x6
 o7 : Kd.R Kd.string 9 W w.heap.size (fun k => gb < k) v7 x7
 below : Below w.heap.size w W
 lo : w.heap.size ≤ gr ∧ gr < base ∧ q < c ∧ c < gb
section
variable {w : World} {gr gb base p q c : Nat} {s s' : RS} {a0 a1 a2 : Int} {v3 v4 v5 v6 v7 v : Value} {x3 : List S93} {x4 : List S95} {x5 : List S97} {x6 : List S100} {x7 : List ByteArray} {W W1 W2 : World} {S : Nat → Prop}
theorem DecT.ch (h : DecT w gr gb base p q c s a0 a1 a2 v3 v4 v5 v6 v7 x3 x4 x5 x6 x7 W) (hc : Ch S W W1) (hS : ∀ k, S k → k = p ∨ k = q) (hs : SR base p q s' W1) : DecT w gr gb base p q c s' a0 a1 a2 v3 v4 v5 v6 v7 x3 x4 x5 x6 x7 W1 := by
 have hlo := h.lo
 have hl2 := h.sr.lo
 exact ⟨hc.keep h.res (fun hk => by have := hS _ hk; omega), hc.keep h.blk (fun hk => by have := hS _ hk; omega), hs, hc.keep h.cap (fun hk => by have := hS _ hk; omega), Kd.R_step h.o3 (fun k ho hlt => hc.block k hlt (fun hk => by have := hS k hk; omega)), Kd.R_step h.o4 (fun k ho hlt => hc.block k hlt (fun hk => by have := hS k hk; omega)), Kd.R_step h.o5 (fun k ho hlt => hc.block k hlt (fun hk => by have := hS k hk; omega)), Kd.R_step h.o6 (fun k ho hlt => hc.block k hlt (fun hk => by have := hS k hk; omega)), Kd.R_step h.o7 (fun k ho hlt => hc.block k hlt (fun hk => by have := hS k hk; omega)), hc.below h.below (fun k hk => by have := hS k hk; omega), h.lo⟩
theorem DecT.set3 {x : List S93} {ok : Nat → Prop} {b : Nat} (h : DecT w gr gb base p q c s a0 a1 a2 v3 v4 v5 v6 v7 x3 x4 x5 x6 x7 W) (ho : Kd.R k93 93 W b ok v x) (hb : gb < b) (hw : w.heap.size ≤ b) : DecT w gr gb base p q c s a0 a1 a2 v v4 v5 v6 v7 x x4 x5 x6 x7 (W.setCell ⟨gb, 3, none⟩ v) := by
 have hlo := h.lo
 have hl2 := h.sr.lo
 have hk : ∀ k, k ≠ gb → (W.setCell ⟨gb, 3, none⟩ v).heap[k]? = W.heap[k]? := fun k hk => Below.heap_setCell W _ v k hk
 exact ⟨(hk gr (by omega)).trans h.res, blk_put h.blk 3 v rfl, h.sr.ch (Ch.set (S := fun k => k = gb) W _ _ rfl) (fun k hk => by omega), (hk c (by omega)).trans h.cap, Kd.R_far (Kd.R_lower (Kd.R_mono (Kd.R_bound ho) (fun k hk => Nat.lt_of_lt_of_le hb hk.2.1)) hw) (fun k hk => by show k ≠ gb; omega) _, Kd.R_far h.o4 (fun k hk => by show k ≠ gb; omega) _, Kd.R_far h.o5 (fun k hk => by show k ≠ gb; omega) _, Kd.R_far h.o6 (fun k hk => by show k ≠ gb; omega) _, Kd.R_far h.o7 (fun k hk => by show k ≠ gb; omega) _, below_set h.below (by omega), h.lo⟩
theorem DecT.set4 {x : List S95} {ok : Nat → Prop} {b : Nat} (h : DecT w gr gb base p q c s a0 a1 a2 v3 v4 v5 v6 v7 x3 x4 x5 x6 x7 W) (ho : Kd.R k95 95 W b ok v x) (hb : gb < b) (hw : w.heap.size ≤ b) : DecT w gr gb base p q c s a0 a1 a2 v3 v v5 v6 v7 x3 x x5 x6 x7 (W.setCell ⟨gb, 4, none⟩ v) := by
 have hlo := h.lo
 have hl2 := h.sr.lo
 have hk : ∀ k, k ≠ gb → (W.setCell ⟨gb, 4, none⟩ v).heap[k]? = W.heap[k]? := fun k hk => Below.heap_setCell W _ v k hk
 exact ⟨(hk gr (by omega)).trans h.res, blk_put h.blk 4 v rfl, h.sr.ch (Ch.set (S := fun k => k = gb) W _ _ rfl) (fun k hk => by omega), (hk c (by omega)).trans h.cap, Kd.R_far h.o3 (fun k hk => by show k ≠ gb; omega) _, Kd.R_far (Kd.R_lower (Kd.R_mono (Kd.R_bound ho) (fun k hk => Nat.lt_of_lt_of_le hb hk.2.1)) hw) (fun k hk => by show k ≠ gb; omega) _, Kd.R_far h.o5 (fun k hk => by show k ≠ gb; omega) _, Kd.R_far h.o6 (fun k hk => by show k ≠ gb; omega) _, Kd.R_far h.o7 (fun k hk => by show k ≠ gb; omega) _, below_set h.below (by omega), h.lo⟩
theorem DecT.set5 {x : List S97} {ok : Nat → Prop} {b : Nat} (h : DecT w gr gb base p q c s a0 a1 a2 v3 v4 v5 v6 v7 x3 x4 x5 x6 x7 W) (ho : Kd.R k97 97 W b ok v x) (hb : gb < b) (hw : w.heap.size ≤ b) : DecT w gr gb base p q c s a0 a1 a2 v3 v4 v v6 v7 x3 x4 x x6 x7 (W.setCell ⟨gb, 5, none⟩ v) := by
 have hlo := h.lo
 have hl2 := h.sr.lo
 have hk : ∀ k, k ≠ gb → (W.setCell ⟨gb, 5, none⟩ v).heap[k]? = W.heap[k]? := fun k hk => Below.heap_setCell W _ v k hk
 exact ⟨(hk gr (by omega)).trans h.res, blk_put h.blk 5 v rfl, h.sr.ch (Ch.set (S := fun k => k = gb) W _ _ rfl) (fun k hk => by omega), (hk c (by omega)).trans h.cap, Kd.R_far h.o3 (fun k hk => by show k ≠ gb; omega) _, Kd.R_far h.o4 (fun k hk => by show k ≠ gb; omega) _, Kd.R_far (Kd.R_lower (Kd.R_mono (Kd.R_bound ho) (fun k hk => Nat.lt_of_lt_of_le hb hk.2.1)) hw) (fun k hk => by show k ≠ gb; omega) _, Kd.R_far h.o6 (fun k hk => by show k ≠ gb; omega) _, Kd.R_far h.o7 (fun k hk => by show k ≠ gb; omega) _, below_set h.below (by omega), h.lo⟩
theorem DecT.set6 {x : List S100} {ok : Nat → Prop} {b : Nat} (h : DecT w gr gb base p q c s a0 a1 a2 v3 v4 v5 v6 v7 x3 x4 x5 x6 x7 W) (ho : Kd.R k100 100 W b ok v x) (hb : gb < b) (hw : w.heap.size ≤ b) : DecT w gr gb base p q c s a0 a1 a2 v3 v4 v5 v v7 x3 x4 x5 x x7 (W.setCell ⟨gb, 6, none⟩ v) := by
 have hlo := h.lo
 have hl2 := h.sr.lo
 have hk : ∀ k, k ≠ gb → (W.setCell ⟨gb, 6, none⟩ v).heap[k]? = W.heap[k]? := fun k hk => Below.heap_setCell W _ v k hk
 exact ⟨(hk gr (by omega)).trans h.res, blk_put h.blk 6 v rfl, h.sr.ch (Ch.set (S := fun k => k = gb) W _ _ rfl) (fun k hk => by omega), (hk c (by omega)).trans h.cap, Kd.R_far h.o3 (fun k hk => by show k ≠ gb; omega) _, Kd.R_far h.o4 (fun k hk => by show k ≠ gb; omega) _, Kd.R_far h.o5 (fun k hk => by show k ≠ gb; omega) _, Kd.R_far (Kd.R_lower (Kd.R_mono (Kd.R_bound ho) (fun k hk => Nat.lt_of_lt_of_le hb hk.2.1)) hw) (fun k hk => by show k ≠ gb; omega) _, Kd.R_far h.o7 (fun k hk => by show k ≠ gb; omega) _, below_set h.below (by omega), h.lo⟩
theorem DecT.set7 {x : List ByteArray} {ok : Nat → Prop} {b : Nat} (h : DecT w gr gb base p q c s a0 a1 a2 v3 v4 v5 v6 v7 x3 x4 x5 x6 x7 W) (ho : Kd.R Kd.string 9 W b ok v x) (hb : gb < b) (hw : w.heap.size ≤ b) : DecT w gr gb base p q c s a0 a1 a2 v3 v4 v5 v6 v x3 x4 x5 x6 x (W.setCell ⟨gb, 7, none⟩ v) := by
 have hlo := h.lo
 have hl2 := h.sr.lo
 have hk : ∀ k, k ≠ gb → (W.setCell ⟨gb, 7, none⟩ v).heap[k]? = W.heap[k]? := fun k hk => Below.heap_setCell W _ v k hk
 exact ⟨(hk gr (by omega)).trans h.res, blk_put h.blk 7 v rfl, h.sr.ch (Ch.set (S := fun k => k = gb) W _ _ rfl) (fun k hk => by omega), (hk c (by omega)).trans h.cap, Kd.R_far h.o3 (fun k hk => by show k ≠ gb; omega) _, Kd.R_far h.o4 (fun k hk => by show k ≠ gb; omega) _, Kd.R_far h.o5 (fun k hk => by show k ≠ gb; omega) _, Kd.R_far h.o6 (fun k hk => by show k ≠ gb; omega) _, Kd.R_far (Kd.R_lower (Kd.R_mono (Kd.R_bound ho) (fun k hk => Nat.lt_of_lt_of_le hb hk.2.1)) hw) (fun k hk => by show k ≠ gb; omega) _, below_set h.below (by omega), h.lo⟩
end
theorem put8 {W : World} {g : Nat} {x0 x1 x2 x3 x4 x5 x6 x7 : Value} (h : W.heap[g]? = some (.cells #[x0, x1, x2, x3, x4, x5, x6, x7] 67 (0, 0))) (v0 v1 v2 v3 v4 v5 v6 v7 : Value) :
  ((((((((W.setCell ⟨g, 0, none⟩ v0).setCell ⟨g, 1, none⟩ v1).setCell ⟨g, 2, none⟩ v2).setCell ⟨g, 3, none⟩ v3).setCell ⟨g, 4, none⟩ v4).setCell ⟨g, 5, none⟩ v5).setCell ⟨g, 6, none⟩ v6).setCell ⟨g, 7, none⟩ v7).heap[g]? = some (.cells #[v0, v1, v2, v3, v4, v5, v6, v7] 67 (0, 0)) := by
 have h0 : (W.setCell ⟨g, 0, none⟩ v0).heap[g]? = some (.cells #[v0, x1, x2, x3, x4, x5, x6, x7] 67 (0, 0)) := blk_put h 0 v0 (by simp)
 generalize W.setCell ⟨g, 0, none⟩ v0 = W0 at h0 ⊢
 have h1 : (W0.setCell ⟨g, 1, none⟩ v1).heap[g]? = some (.cells #[v0, v1, x2, x3, x4, x5, x6, x7] 67 (0, 0)) := blk_put h0 1 v1 (by simp)
 generalize W0.setCell ⟨g, 1, none⟩ v1 = W1 at h1 ⊢
 have h2 : (W1.setCell ⟨g, 2, none⟩ v2).heap[g]? = some (.cells #[v0, v1, v2, x3, x4, x5, x6, x7] 67 (0, 0)) := blk_put h1 2 v2 (by simp)
 generalize W1.setCell ⟨g, 2, none⟩ v2 = W2 at h2 ⊢
 have h3 : (W2.setCell ⟨g, 3, none⟩ v3).heap[g]? = some (.cells #[v0, v1, v2, v3, x4, x5, x6, x7] 67 (0, 0)) := blk_put h2 3 v3 (by simp)
 generalize W2.setCell ⟨g, 3, none⟩ v3 = W3 at h3 ⊢
 have h4 : (W3.setCell ⟨g, 4, none⟩ v4).heap[g]? = some (.cells #[v0, v1, v2, v3, v4, x5, x6, x7] 67 (0, 0)) := blk_put h3 4 v4 (by simp)
 generalize W3.setCell ⟨g, 4, none⟩ v4 = W4 at h4 ⊢
 have h5 : (W4.setCell ⟨g, 5, none⟩ v5).heap[g]? = some (.cells #[v0, v1, v2, v3, v4, v5, x6, x7] 67 (0, 0)) := blk_put h4 5 v5 (by simp)
 generalize W4.setCell ⟨g, 5, none⟩ v5 = W5 at h5 ⊢
 have h6 : (W5.setCell ⟨g, 6, none⟩ v6).heap[g]? = some (.cells #[v0, v1, v2, v3, v4, v5, v6, x7] 67 (0, 0)) := blk_put h5 6 v6 (by simp)
 generalize W5.setCell ⟨g, 6, none⟩ v6 = W6 at h6 ⊢
 exact blk_put h6 7 v7 (by simp)
theorem puts8 (W : World) (g : Nat) (v0 v1 v2 v3 v4 v5 v6 v7 : Value) :
  Puts g W ((((((((W.setCell ⟨g, 0, none⟩ v0).setCell ⟨g, 1, none⟩ v1).setCell ⟨g, 2, none⟩ v2).setCell ⟨g, 3, none⟩ v3).setCell ⟨g, 4, none⟩ v4).setCell ⟨g, 5, none⟩ v5).setCell ⟨g, 6, none⟩ v6).setCell ⟨g, 7, none⟩ v7) := by
 have h := (Puts.refl g W).set 0 v0
 generalize W.setCell ⟨g, 0, none⟩ v0 = W0 at h ⊢
 replace h := h.set 1 v1
 generalize W0.setCell ⟨g, 1, none⟩ v1 = W1 at h ⊢
 replace h := h.set 2 v2
 generalize W1.setCell ⟨g, 2, none⟩ v2 = W2 at h ⊢
 replace h := h.set 3 v3
 generalize W2.setCell ⟨g, 3, none⟩ v3 = W3 at h ⊢
 replace h := h.set 4 v4
 generalize W3.setCell ⟨g, 4, none⟩ v4 = W4 at h ⊢
 replace h := h.set 5 v5
 generalize W4.setCell ⟨g, 5, none⟩ v5 = W5 at h ⊢
 replace h := h.set 6 v6
 generalize W5.setCell ⟨g, 6, none⟩ v6 = W6 at h ⊢
 exact h.set 7 v7
theorem DecT.start {w w1 : World} {p : Nat} {l : List Int} (hb : Below (w.alloc (.cells #[.int .i64 0, .int .i64 0, .int .i64 0, .slice none 0 0, .slice none 0 0, .slice none 0 0, .slice none 0 0, .slice none 0 0] 67 (0, 0))).heap.size (w.alloc (.cells #[.int .i64 0, .int .i64 0, .int .i64 0, .slice none 0 0, .slice none 0 0, .slice none 0 0, .slice none 0 0, .slice none 0 0] 67 (0, 0))) w1) (hp : w.heap.size + 1 ≤ p) (hr : Rdr (w.heap.size + 1) p l false w1) :
  DecT w w.heap.size (w1.heap.size + 1 + 1) (w.heap.size + 1) p w1.heap.size (w1.heap.size + 1) ((l, false), false) 0 0 0 (.slice none 0 0) (.slice none 0 0) (.slice none 0 0) (.slice none 0 0) (.slice none 0 0) [] [] [] [] [] (((w1.alloc (.cells #[.pointer (some ⟨p, 0, none⟩), .bool false] 106 (0, 0))).alloc (.cells #[.pointer (some ⟨w1.heap.size, 0, none⟩)] 104 (0, 0))).alloc (.cells #[.int .i64 0, .int .i64 0, .int .i64 0, .slice none 0 0, .slice none 0 0, .slice none 0 0, .slice none 0 0, .slice none 0 0] 67 (0, 0))) := by
 obtain ⟨A, cc, h1, h2, h3, h4, h5⟩ := hr.ex
 have hpl := blk_lt h1
 have r0 : w1.heap[w.heap.size]? = _ := blk_below (heap_alloc_new w _) hb
 have rl := blk_lt r0
 have hbw : Below w.heap.size w w1 := below_step (below_alloc (Below.refl _ _) _) hb
 obtain ⟨Wa, ha⟩ : ∃ Wa, w1.alloc (.cells #[.pointer (some ⟨p, 0, none⟩), .bool false] 106 (0, 0)) = Wa := ⟨_, rfl⟩
 have ba : Below w1.heap.size w1 Wa := by rw [← ha]; exact below_alloc (Below.refl _ _) _
 have na : Wa.heap[w1.heap.size]? = some (.cells #[.pointer (some ⟨p, 0, none⟩), .bool false] 106 (0, 0)) := by rw [← ha]; exact heap_alloc_new w1 _
 have sa : Wa.heap.size = w1.heap.size + 1 := by rw [← ha]; simp
 rw [ha]
 obtain ⟨Wb, hbb⟩ : ∃ Wb, Wa.alloc (.cells #[.pointer (some ⟨w1.heap.size, 0, none⟩)] 104 (0, 0)) = Wb := ⟨_, rfl⟩
 have bb : Below Wa.heap.size Wa Wb := by rw [← hbb]; exact below_alloc (Below.refl _ _) _
 have nb : Wb.heap[w1.heap.size + 1]? = some (.cells #[.pointer (some ⟨w1.heap.size, 0, none⟩)] 104 (0, 0)) := by rw [← hbb, ← sa]; exact heap_alloc_new Wa _
 have sb : Wb.heap.size = w1.heap.size + 1 + 1 := by rw [← hbb]; simp; omega
 rw [hbb]
 have SRb : SR (w.heap.size + 1) p w1.heap.size ((l, false), false) Wb := ⟨(hr.below ba).below bb, blk_below na bb, ⟨hp, hpl⟩⟩
 have Rb : Wb.heap[w.heap.size]? = _ := blk_below (blk_below r0 ba) bb
 have Bb : Below w.heap.size w Wb := below_step (below_step hbw ba) bb
 have Ac : Below Wb.heap.size Wb (Wb.alloc (.cells #[.int .i64 0, .int .i64 0, .int .i64 0, .slice none 0 0, .slice none 0 0, .slice none 0 0, .slice none 0 0, .slice none 0 0] 67 (0, 0))) := below_alloc (Below.refl _ _) _
 exact ⟨blk_below Rb Ac, by rw [← sb]; exact heap_alloc_new Wb _, SRb.below Ac, blk_below nb Ac, Kd.R_nil _ _ _ _ _, Kd.R_nil _ _ _ _ _, Kd.R_nil _ _ _ _ _, Kd.R_nil _ _ _ _ _, Kd.R_nil _ _ _ _ _, below_step Bb Ac, ⟨Nat.le_refl _, Nat.lt_succ_self _, Nat.lt_succ_self _, Nat.lt_succ_self _⟩⟩
theorem DecT.got {w : World} {gr gb base p q c : Nat} {s s' : RS} {a0 a1 a2 b0 b1 b2 : Int} {v3 v4 v5 v6 v7 : Value} {x3 : List S93} {x4 : List S95} {x5 : List S97} {x6 : List S100} {x7 : List ByteArray} {W W1 : World} (h : DecT w gr gb base p q c s a0 a1 a2 v3 v4 v5 v6 v7 x3 x4 x5 x6 x7 W) (hc : Ch (fun k => k = p ∨ k = gb) W W1) (hs : SR base p q s' W1) (hg : W1.heap[gb]? = some (.cells #[.int .i64 b0, .int .i64 b1, .int .i64 b2, v3, v4, v5, v6, v7] 67 (0, 0))) : DecT w gr gb base p q c s' b0 b1 b2 v3 v4 v5 v6 v7 x3 x4 x5 x6 x7 W1 := by
 have hlo := h.lo
 have hl2 := h.sr.lo
 exact ⟨hc.keep h.res (by rintro (h | h) <;> omega), hg, hs, hc.keep h.cap (by rintro (h | h) <;> omega), Kd.R_step h.o3 (fun k ho hlt => hc.block k hlt (by rintro (h | h) <;> omega)), Kd.R_step h.o4 (fun k ho hlt => hc.block k hlt (by rintro (h | h) <;> omega)), Kd.R_step h.o5 (fun k ho hlt => hc.block k hlt (by rintro (h | h) <;> omega)), Kd.R_step h.o6 (fun k ho hlt => hc.block k hlt (by rintro (h | h) <;> omega)), Kd.R_step h.o7 (fun k ho hlt => hc.block k hlt (by rintro (h | h) <;> omega)), hc.below h.below (by rintro k (h | h) <;> omega), h.lo⟩
def sF (l : List Int) : List S93 × RS := rList dFund 8 ((rInts 3 (l, false)).2, false)
def sA (l : List Int) : List S95 × RS := rList dAlloc 16 (sF l).2
def sR (l : List Int) : List S97 × RS := rList dRate 16 (sA l).2
def sJ (l : List Int) : List S100 × RS := rList dJob 16 (sR l).2
def sK (l : List Int) : List ByteArray × RS := rList dKey 8 (sJ l).2
abbrev SnapT := Int × Int × Int × List S93 × List S95 × List S97 × List S100 × List ByteArray × Int
def snapBad : SnapT := (0, 0, 0, [], [], [], [], [], 3)
def snapF (l : List Int) : SnapT := if (sK l).2.2 = false ∧ rEnd (sK l).2.1 = true then ((rInts 3 (l, false)).1.getD 0 0, (rInts 3 (l, false)).1.getD 1 0, (rInts 3 (l, false)).1.getD 2 0, (sF l).1, (sA l).1, (sR l).1, (sJ l).1, (sK l).1, 0) else snapBad
theorem three (l : List Int) (h : l.length = 3) : ∃ a b c, l = [a, b, c] := by
 match l, h with
 | [a, b, c], _ => exact ⟨a, b, c, rfl⟩
theorem put3 (a b c : Int) (v3 v4 v5 v6 v7 : Value) : putN #[.int .i64 0, .int .i64 0, .int .i64 0, v3, v4, v5, v6, v7] 0 [a, b, c] = #[.int .i64 a, .int .i64 b, .int .i64 c, v3, v4, v5, v6, v7] := by simp [putN]
set_option maxHeartbeats 4000000 in
set_option maxRecDepth 100000 in
theorem snap_Decode.at_ (A0 : Option Addr) (c0 : Nat) (l0 : List Int) (w : World) (hr0 : Kd.C (Kd.int .u8) w A0 l0.length l0) (hc0 : l0.length ≤ c0) (hb : ∀ x ∈ l0, 0 ≤ x ∧ x ≤ 255) (hl : l0.length < 140737488355328) (r1 r2 r3 : Int) (r4 : List S93) (r5 : List S95) (r6 : List S97) (r7 : List S100) (r8 : List ByteArray) (r9 : Int) (h : snapF l0 = (r1, r2, r3, r4, r5, r6, r7, r8, r9)) :
  Calls Try.prog 36 #[.slice A0 l0.length c0] w fun e w' => ∃ v3_ v4_ v5_ v6_ v7_ : Value, e = .returned (.tuple #[.agg #[.int .i64 r1, .int .i64 r2, .int .i64 r3, v3_, v4_, v5_, v6_, v7_], .int .i64 r9]) ∧ Kd.R k93 93 w' w.heap.size (fun _ => True) v3_ r4 ∧ Kd.R k95 95 w' w.heap.size (fun _ => True) v4_ r5 ∧ Kd.R k97 97 w' w.heap.size (fun _ => True) v5_ r6 ∧ Kd.R k100 100 w' w.heap.size (fun _ => True) v6_ r7 ∧ Kd.R Kd.string 9 w' w.heap.size (fun _ => True) v7_ r8 ∧ Below w.heap.size w w' := by
 have HR := Aside0.mk hr0
 have HC := Aside0.mk hc0
 have HBB := Aside0.mk hb
 have HL := Aside0.mk hl
 clear hr0; clear hc0; clear hb; clear hl
 obtain ⟨a0, a1, a2, hy⟩ := three _ (rInts_len 3 (l0, false))
 obtain ⟨t0, ht0⟩ : ∃ t, (rInts 3 (l0, false)).2 = t := ⟨_, rfl⟩
 obtain ⟨yF, hF⟩ : ∃ y, rList dFund 8 (t0, false) = y := ⟨_, rfl⟩
 obtain ⟨yA, hA⟩ : ∃ y, rList dAlloc 16 yF.2 = y := ⟨_, rfl⟩
 obtain ⟨yR, hR⟩ : ∃ y, rList dRate 16 yA.2 = y := ⟨_, rfl⟩
 obtain ⟨yJ, hJ⟩ : ∃ y, rList dJob 16 yR.2 = y := ⟨_, rfl⟩
 obtain ⟨yK, hK⟩ : ∃ y, rList dKey 8 yJ.2 = y := ⟨_, rfl⟩
 have eF : sF l0 = yF := by unfold sF; rw [ht0, hF]
 have eA : sA l0 = yA := by unfold sA; rw [eF, hA]
 have eR : sR l0 = yR := by unfold sR; rw [eA, hR]
 have eJ : sJ l0 = yJ := by unfold sJ; rw [eR, hJ]
 have eK : sK l0 = yK := by unfold sK; rw [eJ, hK]
 obtain ⟨eb, heb⟩ : ∃ eb, rEnd yK.2.1 = eb := ⟨_, rfl⟩
 have HHd : snapF l0 = (if yK.2.2 = false ∧ eb = true then (a0, a1, a2, yF.1, yA.1, yR.1, yJ.1, yK.1, 0) else snapBad) := by unfold snapF; rw [eK, heb, hy, eF, eA, eR, eJ]; rfl
 rw [HHd] at h
 have HH := Aside0.mk h
 have HY := Aside0.mk hy
 have HT0 := Aside0.mk ht0
 have HF := Aside0.mk hF
 have HA := Aside0.mk hA
 have HRR := Aside0.mk hR
 have HJ := Aside0.mk hJ
 have HK := Aside0.mk hK
 have HEB := Aside0.mk heb
 clear hy; clear ht0; clear hF; clear hA; clear hR; clear hJ; clear hK; clear eF; clear eA; clear eR; clear eJ; clear eK; clear heb; clear HHd; clear h
 go_enter Try.func36, Try.ntmps36
 go_upto_region 3 with (first | (go_at_call 21; (with_reducible refine (new_f A0 c0 l0 _ (Kd.C_below HR.out (below_alloc (Below.refl _ _) _)) HC.out HBB.out HL.out).mono ?_); rintro e w1 ⟨p, rfl, hp, hr, hb⟩; have sz0 : ((w.alloc (.cells #[.int .i64 0, .int .i64 0, .int .i64 0, .slice none 0 0, .slice none 0 0, .slice none 0 0, .slice none 0 0, .slice none 0 0] 67 (0, 0)))).heap.size = w.heap.size + 1 := (by simp); rw [sz0] at hp hr; have HD0 := Aside0.mk (DecT.start hb hp hr); clear hp hr hb sz0))

 obtain ⟨W0, hW0⟩ : ∃ W, (((w1.alloc (.cells #[.pointer (some ⟨p, 0, none⟩), .bool false] 106 (0, 0))).alloc (.cells #[.pointer (some ⟨w1.heap.size, 0, none⟩)] 104 (0, 0))).alloc (.cells #[.int .i64 0, .int .i64 0, .int .i64 0, .slice none 0 0, .slice none 0 0, .slice none 0 0, .slice none 0 0, .slice none 0 0] 67 (0, 0))) = W := ⟨_, rfl⟩
 rw [hW0] at HD0 ⊢
 generalize w1.heap.size + 1 + 1 = gb at HD0 ⊢
 generalize w1.heap.size + 1 = c at HD0 ⊢
 generalize w1.heap.size = q at HD0 ⊢
 clear hW0
 have hc0 : World.cell? W0 ⟨c, 0, none⟩ = some (.pointer (some ⟨q, 0, none⟩)) := (blk_cell HD0.out.cap 0).trans rfl
 have G0 := Aside0.mk (HD0.out.sr.below (below_alloc (Below.refl W0.heap.size W0) (.cells #[.pointer (some ⟨gb, 0, none⟩), .pointer (some ⟨gb, 1, none⟩), .pointer (some ⟨gb, 2, none⟩)] 108 (0, 0))))
 have G1 := Aside0.mk (blk_below HD0.out.blk (below_alloc (Below.refl W0.heap.size W0) (.cells #[.pointer (some ⟨gb, 0, none⟩), .pointer (some ⟨gb, 1, none⟩), .pointer (some ⟨gb, 2, none⟩)] 108 (0, 0))))
 have G2 : Aside0 (q < gb ∧ gb ≠ W0.heap.size ∧ q < W0.heap.size) := ⟨by have := HD0.out.lo; have := blk_lt HD0.out.blk; omega⟩
 have G3 : Aside0 (∀ i, i < 3 → (#[.pointer (some ⟨gb, 0, none⟩), .pointer (some ⟨gb, 1, none⟩), .pointer (some ⟨gb, 2, none⟩)] : Array Value)[i]? = some (.pointer (some ⟨gb, 0 + i, none⟩))) := ⟨by intro i hi; (have hi_ : i = 0 ∨ i = 1 ∨ i = 2 := by omega); rcases hi_ with rfl | rfl | rfl <;> rfl⟩
 have G4 : Aside0 (0 + 3 ≤ (#[.int .i64 0, .int .i64 0, .int .i64 0, .slice none 0 0, .slice none 0 0, .slice none 0 0, .slice none 0 0, .slice none 0 0] : Array Value).size ∧ 3 ≤ 100) := ⟨by simp, by decide⟩
 go_upto_region 4 with (first | (go_at_call 52; (with_reducible refine (get_f (g := gb) (t := W0.heap.size) (n := 3) (o := 0) (ty := 67) (arr := #[.int .i64 0, .int .i64 0, .int .i64 0, .slice none 0 0, .slice none 0 0, .slice none 0 0, .slice none 0 0, .slice none 0 0]) (tarr := #[.pointer (some ⟨gb, 0, none⟩), .pointer (some ⟨gb, 1, none⟩), .pointer (some ⟨gb, 2, none⟩)]) ((l0, false), false) _ G0.out G2.out.1 G2.out.2.1 G2.out.2.2 G1.out (heap_alloc_new W0 _) G3.out G4.out.1 G4.out.2).mono ?_); rintro e w2 ⟨rfl, hg, hs, hc⟩; rw [HY.out, put3] at hg; rw [HT0.out] at hs; have HD := Aside0.mk (HD0.out.got (Ch.trans (Ch.of_below (S := fun k => k = p ∨ k = gb) (below_alloc (Below.refl _ _) _)) hc (fun _ _ h => h)) hs hg); clear hg hs hc HD0 G0 G1 G2 G3 G4))

 have hc0 : World.cell? w2 ⟨c, 0, none⟩ = some (.pointer (some ⟨q, 0, none⟩)) := (blk_cell HD.out.cap 0).trans rfl
 go_upto_region 5 with (first | (go_at_call 53; (with_reducible refine (list53 (t0, false) 8 w2 HD.out.sr HD.out.cap HD.out.lo.2.2.1 (by decide)).mono ?_); rintro e wx3 ⟨v, rfl, hv, hs, hc⟩; rw [HF.out] at hv hs; obtain ⟨Av3, cv3, ev⟩ := Kd.R_slice hv; subst ev; have HSZ := Aside0.mk (Nat.lt_of_lt_of_le (blk_lt HD.out.blk) (Nat.le_refl _)); have HSY := Aside0.mk (below_size HD.out.below); have n_ := Aside0.mk (HD.out.ch hc (fun _ h => h) hs); have hgz : World.cell? wx3 ⟨gb, 3, none⟩ = some (.slice none 0 0) := (blk_cell n_.out.blk 3).trans rfl; have hgf := blk_frozen n_.out.blk 3; have m_ := Aside0.mk (n_.out.set3 hv HSZ.out HSY.out); clear HD hv hs hc n_ HSZ HSY; have HD := m_; clear m_))
 clear hc0; clear hgz; clear hgf
 generalize World.setCell wx3 _ _ = W3 at HD ⊢

 have hc0 : World.cell? W3 ⟨c, 0, none⟩ = some (.pointer (some ⟨q, 0, none⟩)) := (blk_cell HD.out.cap 0).trans rfl
 go_upto_region 6 with (first | (go_at_call 55; (with_reducible refine (list55 yF.2 16 W3 HD.out.sr HD.out.cap HD.out.lo.2.2.1 (by decide)).mono ?_); rintro e wx4 ⟨v, rfl, hv, hs, hc⟩; rw [HA.out] at hv hs; obtain ⟨Av4, cv4, ev⟩ := Kd.R_slice hv; subst ev; have HSZ := Aside0.mk (Nat.lt_of_lt_of_le (blk_lt HD.out.blk) (Nat.le_refl _)); have HSY := Aside0.mk (below_size HD.out.below); have n_ := Aside0.mk (HD.out.ch hc (fun _ h => h) hs); have hgz : World.cell? wx4 ⟨gb, 4, none⟩ = some (.slice none 0 0) := (blk_cell n_.out.blk 4).trans rfl; have hgf := blk_frozen n_.out.blk 4; have m_ := Aside0.mk (n_.out.set4 hv HSZ.out HSY.out); clear HD hv hs hc n_ HSZ HSY; have HD := m_; clear m_))
 clear hc0; clear hgz; clear hgf
 generalize World.setCell wx4 _ _ = W4 at HD ⊢

 have hc0 : World.cell? W4 ⟨c, 0, none⟩ = some (.pointer (some ⟨q, 0, none⟩)) := (blk_cell HD.out.cap 0).trans rfl
 go_upto_region 7 with (first | (go_at_call 57; (with_reducible refine (list57 yA.2 16 W4 HD.out.sr HD.out.cap HD.out.lo.2.2.1 (by decide)).mono ?_); rintro e wx5 ⟨v, rfl, hv, hs, hc⟩; rw [HRR.out] at hv hs; obtain ⟨Av5, cv5, ev⟩ := Kd.R_slice hv; subst ev; have HSZ := Aside0.mk (Nat.lt_of_lt_of_le (blk_lt HD.out.blk) (Nat.le_refl _)); have HSY := Aside0.mk (below_size HD.out.below); have n_ := Aside0.mk (HD.out.ch hc (fun _ h => h) hs); have hgz : World.cell? wx5 ⟨gb, 5, none⟩ = some (.slice none 0 0) := (blk_cell n_.out.blk 5).trans rfl; have hgf := blk_frozen n_.out.blk 5; have m_ := Aside0.mk (n_.out.set5 hv HSZ.out HSY.out); clear HD hv hs hc n_ HSZ HSY; have HD := m_; clear m_))
 clear hc0; clear hgz; clear hgf
 generalize World.setCell wx5 _ _ = W5 at HD ⊢

 have hc0 : World.cell? W5 ⟨c, 0, none⟩ = some (.pointer (some ⟨q, 0, none⟩)) := (blk_cell HD.out.cap 0).trans rfl
 go_upto_region 8 with (first | (go_at_call 59; (with_reducible refine (list59 yR.2 16 W5 HD.out.sr (by decide)).mono ?_); rintro e wx6 ⟨v, rfl, hv, hs, hc⟩; rw [HJ.out] at hv hs; obtain ⟨Av6, cv6, ev⟩ := Kd.R_slice hv; subst ev; have HSZ := Aside0.mk (Nat.lt_of_lt_of_le (blk_lt HD.out.blk) (Nat.le_refl _)); have HSY := Aside0.mk (below_size HD.out.below); have n_ := Aside0.mk (HD.out.ch hc (fun _ h => h) hs); have hgz : World.cell? wx6 ⟨gb, 6, none⟩ = some (.slice none 0 0) := (blk_cell n_.out.blk 6).trans rfl; have hgf := blk_frozen n_.out.blk 6; have m_ := Aside0.mk (n_.out.set6 hv HSZ.out HSY.out); clear HD hv hs hc n_ HSZ HSY; have HD := m_; clear m_))
 clear hc0; clear hgz; clear hgf
 generalize World.setCell wx6 _ _ = W6 at HD ⊢

 have hc0 : World.cell? W6 ⟨c, 0, none⟩ = some (.pointer (some ⟨q, 0, none⟩)) := (blk_cell HD.out.cap 0).trans rfl
 go_upto_region 9 with (first | (go_at_call 61; (with_reducible refine (list61 yJ.2 8 W6 HD.out.sr HD.out.cap HD.out.lo.2.2.1 (by decide)).mono ?_); rintro e wx7 ⟨v, rfl, hv, hs, hc⟩; rw [HK.out] at hv hs; obtain ⟨Av7, cv7, ev⟩ := Kd.R_slice hv; subst ev; have HSZ := Aside0.mk (Nat.lt_of_lt_of_le (blk_lt HD.out.blk) (Nat.le_refl _)); have HSY := Aside0.mk (below_size HD.out.below); have n_ := Aside0.mk (HD.out.ch hc (fun _ h => h) hs); have hgz : World.cell? wx7 ⟨gb, 7, none⟩ = some (.slice none 0 0) := (blk_cell n_.out.blk 7).trans rfl; have hgf := blk_frozen n_.out.blk 7; have m_ := Aside0.mk (n_.out.set7 hv HSZ.out HSY.out); clear HD hv hs hc n_ HSZ HSY; have HD := m_; clear m_))
 clear hc0; clear hgz; clear hgf
 generalize World.setCell wx7 _ _ = W7 at HD ⊢

 have hc0 : World.cell? W7 ⟨c, 0, none⟩ = some (.pointer (some ⟨q, 0, none⟩)) := (blk_cell HD.out.cap 0).trans rfl
 have hq0 := HD.out.sr.q0
 obtain ⟨bk, hbk⟩ : ∃ b, yK.2.2 = b := ⟨_, rfl⟩
 have hq1 : World.cell? W7 ⟨q, 1, none⟩ = some (.bool bk) := by rw [← hbk]; exact HD.out.sr.q1
 cases bk with
 | true =>
  have HX : snapBad = (r1, r2, r3, r4, r5, r6, r7, r8, r9) := by have := HH.out; rw [if_neg (by rw [hbk]; simp)] at this; exact this
  simp only [snapBad, Prod.mk.injEq] at HX
  obtain ⟨rfl, rfl, rfl, rfl, rfl, rfl, rfl, rfl, rfl⟩ := HX
  clear HH
  have hz0 : World.cell? W7 ⟨w.heap.size, 0, none⟩ = some (.int .i64 0) := (blk_cell HD.out.res 0).trans rfl
  have hf0 := blk_frozen HD.out.res 0
  have hz1 : World.cell? W7 ⟨w.heap.size, 1, none⟩ = some (.int .i64 0) := (blk_cell HD.out.res 1).trans rfl
  have hf1 := blk_frozen HD.out.res 1
  have hz2 : World.cell? W7 ⟨w.heap.size, 2, none⟩ = some (.int .i64 0) := (blk_cell HD.out.res 2).trans rfl
  have hf2 := blk_frozen HD.out.res 2
  have hz3 : World.cell? W7 ⟨w.heap.size, 3, none⟩ = some (.slice none 0 0) := (blk_cell HD.out.res 3).trans rfl
  have hf3 := blk_frozen HD.out.res 3
  have hz4 : World.cell? W7 ⟨w.heap.size, 4, none⟩ = some (.slice none 0 0) := (blk_cell HD.out.res 4).trans rfl
  have hf4 := blk_frozen HD.out.res 4
  have hz5 : World.cell? W7 ⟨w.heap.size, 5, none⟩ = some (.slice none 0 0) := (blk_cell HD.out.res 5).trans rfl
  have hf5 := blk_frozen HD.out.res 5
  have hz6 : World.cell? W7 ⟨w.heap.size, 6, none⟩ = some (.slice none 0 0) := (blk_cell HD.out.res 6).trans rfl
  have hf6 := blk_frozen HD.out.res 6
  have hz7 : World.cell? W7 ⟨w.heap.size, 7, none⟩ = some (.slice none 0 0) := (blk_cell HD.out.res 7).trans rfl
  have hf7 := blk_frozen HD.out.res 7
  go_wp2_with fail
  refine bodyPost_ret (results_ct rfl _ _ w.heap.size 67 #[.int .i64 0, .int .i64 0, .int .i64 0, .slice none 0 0, .slice none 0 0, .slice none 0 0, .slice none 0 0, .slice none 0 0] (0, 0) _ rfl (put8 HD.out.res _ _ _ _ _ _ _ _) Try.underlying67 rfl (by kernel_rfl)) rfl ?_
  exact ⟨_, _, _, _, _, rfl, Kd.R_nil _ _ _ _ _, Kd.R_nil _ _ _ _ _, Kd.R_nil _ _ _ _ _, Kd.R_nil _ _ _ _ _, Kd.R_nil _ _ _ _ _, (puts8 _ _ _ _ _ _ _ _ _ _).below (Nat.le_refl _) HD.out.below⟩

 | false =>
  cases eb with
  | false =>
   have HX : snapBad = (r1, r2, r3, r4, r5, r6, r7, r8, r9) := by have := HH.out; rw [if_neg (by rw [hbk]; simp)] at this; exact this
   simp only [snapBad, Prod.mk.injEq] at HX
   obtain ⟨rfl, rfl, rfl, rfl, rfl, rfl, rfl, rfl, rfl⟩ := HX
   clear HH
   have hz0 : World.cell? W7 ⟨w.heap.size, 0, none⟩ = some (.int .i64 0) := (blk_cell HD.out.res 0).trans rfl
   have hf0 := blk_frozen HD.out.res 0
   have hz1 : World.cell? W7 ⟨w.heap.size, 1, none⟩ = some (.int .i64 0) := (blk_cell HD.out.res 1).trans rfl
   have hf1 := blk_frozen HD.out.res 1
   have hz2 : World.cell? W7 ⟨w.heap.size, 2, none⟩ = some (.int .i64 0) := (blk_cell HD.out.res 2).trans rfl
   have hf2 := blk_frozen HD.out.res 2
   have hz3 : World.cell? W7 ⟨w.heap.size, 3, none⟩ = some (.slice none 0 0) := (blk_cell HD.out.res 3).trans rfl
   have hf3 := blk_frozen HD.out.res 3
   have hz4 : World.cell? W7 ⟨w.heap.size, 4, none⟩ = some (.slice none 0 0) := (blk_cell HD.out.res 4).trans rfl
   have hf4 := blk_frozen HD.out.res 4
   have hz5 : World.cell? W7 ⟨w.heap.size, 5, none⟩ = some (.slice none 0 0) := (blk_cell HD.out.res 5).trans rfl
   have hf5 := blk_frozen HD.out.res 5
   have hz6 : World.cell? W7 ⟨w.heap.size, 6, none⟩ = some (.slice none 0 0) := (blk_cell HD.out.res 6).trans rfl
   have hf6 := blk_frozen HD.out.res 6
   have hz7 : World.cell? W7 ⟨w.heap.size, 7, none⟩ = some (.slice none 0 0) := (blk_cell HD.out.res 7).trans rfl
   have hf7 := blk_frozen HD.out.res 7
   go_wp2_with (first | (go_at_call 26; (with_reducible refine (end_s HEB.out _ HD.out.sr.rd).mono ?_); rintro e w9 ⟨rfl, rfl⟩))
   refine bodyPost_ret (results_ct rfl _ _ w.heap.size 67 #[.int .i64 0, .int .i64 0, .int .i64 0, .slice none 0 0, .slice none 0 0, .slice none 0 0, .slice none 0 0, .slice none 0 0] (0, 0) _ rfl (put8 HD.out.res _ _ _ _ _ _ _ _) Try.underlying67 rfl (by kernel_rfl)) rfl ?_
   exact ⟨_, _, _, _, _, rfl, Kd.R_nil _ _ _ _ _, Kd.R_nil _ _ _ _ _, Kd.R_nil _ _ _ _ _, Kd.R_nil _ _ _ _ _, Kd.R_nil _ _ _ _ _, (puts8 _ _ _ _ _ _ _ _ _ _).below (Nat.le_refl _) HD.out.below⟩

  | true =>
   have HX : ((a0, a1, a2, yF.1, yA.1, yR.1, yJ.1, yK.1, 0) : SnapT) = (r1, r2, r3, r4, r5, r6, r7, r8, r9) := by have := HH.out; rw [if_pos ⟨hbk, rfl⟩] at this; exact this
   simp only [Prod.mk.injEq] at HX
   obtain ⟨rfl, rfl, rfl, rfl, rfl, rfl, rfl, rfl, rfl⟩ := HX
   clear HH
   have hz0 : World.cell? W7 ⟨w.heap.size, 0, none⟩ = some (.int .i64 0) := (blk_cell HD.out.res 0).trans rfl
   have hf0 := blk_frozen HD.out.res 0
   have hz1 : World.cell? W7 ⟨w.heap.size, 1, none⟩ = some (.int .i64 0) := (blk_cell HD.out.res 1).trans rfl
   have hf1 := blk_frozen HD.out.res 1
   have hz2 : World.cell? W7 ⟨w.heap.size, 2, none⟩ = some (.int .i64 0) := (blk_cell HD.out.res 2).trans rfl
   have hf2 := blk_frozen HD.out.res 2
   have hz3 : World.cell? W7 ⟨w.heap.size, 3, none⟩ = some (.slice none 0 0) := (blk_cell HD.out.res 3).trans rfl
   have hf3 := blk_frozen HD.out.res 3
   have hz4 : World.cell? W7 ⟨w.heap.size, 4, none⟩ = some (.slice none 0 0) := (blk_cell HD.out.res 4).trans rfl
   have hf4 := blk_frozen HD.out.res 4
   have hz5 : World.cell? W7 ⟨w.heap.size, 5, none⟩ = some (.slice none 0 0) := (blk_cell HD.out.res 5).trans rfl
   have hf5 := blk_frozen HD.out.res 5
   have hz6 : World.cell? W7 ⟨w.heap.size, 6, none⟩ = some (.slice none 0 0) := (blk_cell HD.out.res 6).trans rfl
   have hf6 := blk_frozen HD.out.res 6
   have hz7 : World.cell? W7 ⟨w.heap.size, 7, none⟩ = some (.slice none 0 0) := (blk_cell HD.out.res 7).trans rfl
   have hf7 := blk_frozen HD.out.res 7
   have hy0 : World.cell? W7 ⟨gb, 0, none⟩ = some (.int .i64 a0) := (blk_cell HD.out.blk 0).trans rfl
   have hv0 := blk_frozen HD.out.blk 0
   have hy1 : World.cell? W7 ⟨gb, 1, none⟩ = some (.int .i64 a1) := (blk_cell HD.out.blk 1).trans rfl
   have hv1 := blk_frozen HD.out.blk 1
   have hy2 : World.cell? W7 ⟨gb, 2, none⟩ = some (.int .i64 a2) := (blk_cell HD.out.blk 2).trans rfl
   have hv2 := blk_frozen HD.out.blk 2
   have hy3 : World.cell? W7 ⟨gb, 3, none⟩ = some (.slice Av3 yF.1.length cv3) := (blk_cell HD.out.blk 3).trans rfl
   have hv3 := blk_frozen HD.out.blk 3
   have hy4 : World.cell? W7 ⟨gb, 4, none⟩ = some (.slice Av4 yA.1.length cv4) := (blk_cell HD.out.blk 4).trans rfl
   have hv4 := blk_frozen HD.out.blk 4
   have hy5 : World.cell? W7 ⟨gb, 5, none⟩ = some (.slice Av5 yR.1.length cv5) := (blk_cell HD.out.blk 5).trans rfl
   have hv5 := blk_frozen HD.out.blk 5
   have hy6 : World.cell? W7 ⟨gb, 6, none⟩ = some (.slice Av6 yJ.1.length cv6) := (blk_cell HD.out.blk 6).trans rfl
   have hv6 := blk_frozen HD.out.blk 6
   have hy7 : World.cell? W7 ⟨gb, 7, none⟩ = some (.slice Av7 yK.1.length cv7) := (blk_cell HD.out.blk 7).trans rfl
   have hv7 := blk_frozen HD.out.blk 7
   go_wp2_with (first | (go_at_call 26; (with_reducible refine (end_s HEB.out _ HD.out.sr.rd).mono ?_); rintro e w9 ⟨rfl, rfl⟩))
   have hput := put8 HD.out.res (.int .i64 a0) (.int .i64 a1) (.int .i64 a2) (.slice Av3 yF.1.length cv3) (.slice Av4 yA.1.length cv4) (.slice Av5 yR.1.length cv5) (.slice Av6 yJ.1.length cv6) (.slice Av7 yK.1.length cv7)
   have hpu := puts8 w9 w.heap.size (.int .i64 a0) (.int .i64 a1) (.int .i64 a2) (.slice Av3 yF.1.length cv3) (.slice Av4 yA.1.length cv4) (.slice Av5 yR.1.length cv5) (.slice Av6 yJ.1.length cv6) (.slice Av7 yK.1.length cv7)
   generalize ((((((((w9.setCell ⟨w.heap.size, 0, none⟩ (.int .i64 a0)).setCell ⟨w.heap.size, 1, none⟩ (.int .i64 a1)).setCell ⟨w.heap.size, 2, none⟩ (.int .i64 a2)).setCell ⟨w.heap.size, 3, none⟩ (.slice Av3 yF.1.length cv3)).setCell ⟨w.heap.size, 4, none⟩ (.slice Av4 yA.1.length cv4)).setCell ⟨w.heap.size, 5, none⟩ (.slice Av5 yR.1.length cv5)).setCell ⟨w.heap.size, 6, none⟩ (.slice Av6 yJ.1.length cv6)).setCell ⟨w.heap.size, 7, none⟩ (.slice Av7 yK.1.length cv7)) = wz at hput hpu ⊢
   refine bodyPost_ret (results_ct rfl _ wz w.heap.size 67 #[.int .i64 a0, .int .i64 a1, .int .i64 a2, .slice Av3 yF.1.length cv3, .slice Av4 yA.1.length cv4, .slice Av5 yR.1.length cv5, .slice Av6 yJ.1.length cv6, .slice Av7 yK.1.length cv7] (0, 0) _ rfl hput Try.underlying67 rfl (by kernel_rfl)) rfl ?_
   have hlo := HD.out.lo
   have hl2 := HD.out.sr.lo
   have hk := (hpu 0 (Nat.zero_le _)).2.2
   exact ⟨_, _, _, _, _, rfl, Kd.R_mono (Kd.R_step HD.out.o3 (fun k ho _ => hk k (by omega))) (fun _ _ => trivial), Kd.R_mono (Kd.R_step HD.out.o4 (fun k ho _ => hk k (by omega))) (fun _ _ => trivial), Kd.R_mono (Kd.R_step HD.out.o5 (fun k ho _ => hk k (by omega))) (fun _ _ => trivial), Kd.R_mono (Kd.R_step HD.out.o6 (fun k ho _ => hk k (by omega))) (fun _ _ => trivial), Kd.R_mono (Kd.R_step HD.out.o7 (fun k ho _ => hk k (by omega))) (fun _ _ => trivial), hpu.below (Nat.le_refl _) HD.out.below⟩

def snap_Decode.f (l0 : List Int) : Option (Int × Int × Int × List (S93) × List (S95) × List (S97) × List (S100) × List (ByteArray) × Int) := if l0.length < 140737488355328 ∧ ∀ x ∈ l0, 0 ≤ x ∧ x ≤ 255 then some (snapF l0) else none
theorem snap_Decode.calls (A0 : Option Addr) (c0 : Nat) (l0 : List Int) (r1 : Int) (r2 : Int) (r3 : Int) (r4 : List (S93)) (r5 : List (S95)) (r6 : List (S97)) (r7 : List (S100)) (r8 : List (ByteArray)) (r9 : Int) (w : World) (hr0 : Kd.C (Kd.int .u8) w A0 l0.length l0) (hc0 : l0.length ≤ c0) (h : snap_Decode.f l0 = some (r1, r2, r3, r4, r5, r6, r7, r8, r9)) :
  Calls Try.prog 36 #[.slice A0 l0.length c0] w fun e w' => ∃ v3_ v4_ v5_ v6_ v7_ : Value, e = .returned (.tuple #[.agg #[.int .i64 r1, .int .i64 r2, .int .i64 r3, v3_, v4_, v5_, v6_, v7_], .int .i64 r9]) ∧ Kd.R k93 93 w' w.heap.size (fun _ => True) v3_ r4 ∧ Kd.R k95 95 w' w.heap.size (fun _ => True) v4_ r5 ∧ Kd.R k97 97 w' w.heap.size (fun _ => True) v5_ r6 ∧ Kd.V k100 100 w' w.heap.size (fun k_ => (w.heap.size ≤ k_) ∧ some k_ ≠ v3_.ownBlock ∧ some k_ ≠ v4_.ownBlock ∧ some k_ ≠ v5_.ownBlock ∧ some k_ ≠ v7_.ownBlock) v6_ r7 ∧ Kd.R Kd.string 9 w' w.heap.size (fun _ => True) v7_ r8 ∧ Below w.heap.size w w' := by
 unfold snap_Decode.f at h
 have hc : l0.length < 140737488355328 ∧ ∀ x ∈ l0, 0 ≤ x ∧ x ≤ 255 := Decidable.byContradiction fun c => by rw [if_neg c] at h; simp at h
 rw [if_pos hc] at h
 refine (snap_Decode.at_ A0 c0 l0 w hr0 hc0 hc.2 hc.1 r1 r2 r3 r4 r5 r6 r7 r8 r9 (Option.some.inj h)).mono (fun e w' hx => ?_)
 obtain ⟨v3_, v4_, v5_, v6_, v7_, he, h3, h4, h5, h6, h7, hb⟩ := hx
 exact ⟨v3_, v4_, v5_, v6_, v7_, he, h3, h4, h5, Kd.R_V (Kd.R_mono (Kd.R_bound h6) (fun k hk => by
  obtain ⟨_, hb_, _, q, hq, cells, hc_⟩ := hk
  have hq2 : q = 100 ∨ q = 102 := by
   have hq3 : q ∈ [100, 102] := hq
   simpa using hq3
  exact ⟨hb_, Kd.R_ne h3 hc_ (by omega), Kd.R_ne h4 hc_ (by omega), Kd.R_ne h5 hc_ (by omega), Kd.R_ne h7 hc_ (by omega)⟩)), h7, hb⟩
end Go.Proofs.Ytjmkpcnekghmhaa.PAll
end
section
namespace Go.Proofs.Ytjmkpcnekghmhaa.PAll
open Go.RowKit Go.Proofs.YtjmkpcnekghmhaaW.PrintWords Go.Proofs.YtjmkpcnekghmhaaW.PrintLast Go.Proofs.YtjmkpcnekghmhaaW.PrintMore
attribute [local go_sem] max2_int min2_int max_two min_two max_three min_three max_four min_four   -- for this text's walks alone
set_option linter.unusedVariables false
set_option linter.unusedSimpArgs false

theorem eqA93 (d : Nat) (w : World) (x0 y0 : ByteArray) (x1 y1 : Int) (x2 y2 : Int) :
    (Op.equalIn (d + 2) 93 (.agg #[.string x0, .int .i64 x1, .int .i64 x2]) (.agg #[.string y0, .int .i64 y1, .int .i64 y2])).run Try.prog w = .ok (x0.toList == y0.toList && (x1 == y1 && (x2 == y2))) w := by
  refine eqA_of Try.underlying93 (by kernel_rfl) ?_
  refine eqf_cons (by rfl) (by go_simp; rfl) (by go_simp; rfl) (by go_simp) ?_
  refine eqf_cons (by rfl) (by go_simp; rfl) (by go_simp; rfl) (by go_simp) ?_
  exact eqf_last (by rfl) (by go_simp; rfl) (by go_simp; rfl) (by go_simp)
end Go.Proofs.Ytjmkpcnekghmhaa.PAll
end
section
namespace Go.Proofs.Ytjmkpcnekghmhaa.PAll
open Go.RowKit Go.Proofs.YtjmkpcnekghmhaaW.PrintWords Go.Proofs.YtjmkpcnekghmhaaW.PrintLast Go.Proofs.YtjmkpcnekghmhaaW.PrintMore
attribute [local go_sem] max2_int min2_int max_two min_two max_three min_three max_four min_four   -- for this text's walks alone
set_option linter.unusedVariables false
set_option linter.unusedSimpArgs false

theorem eqA95 (d : Nat) (w : World) (x0 y0 : Int) (x1 y1 : Int) (x2 y2 : Int) (x3 y3 : Int) (x4 y4 : Int) (x5 y5 : Int) :
    (Op.equalIn (d + 2) 95 (.agg #[.int .i64 x0, .int .i64 x1, .int .i64 x2, .int .i64 x3, .int .i64 x4, .int .i64 x5]) (.agg #[.int .i64 y0, .int .i64 y1, .int .i64 y2, .int .i64 y3, .int .i64 y4, .int .i64 y5])).run Try.prog w = .ok (x0 == y0 && (x1 == y1 && (x2 == y2 && (x3 == y3 && (x4 == y4 && (x5 == y5)))))) w := by
  refine eqA_of Try.underlying95 (by kernel_rfl) ?_
  refine eqf_cons (by rfl) (by go_simp; rfl) (by go_simp; rfl) (by go_simp) ?_
  refine eqf_cons (by rfl) (by go_simp; rfl) (by go_simp; rfl) (by go_simp) ?_
  refine eqf_cons (by rfl) (by go_simp; rfl) (by go_simp; rfl) (by go_simp) ?_
  refine eqf_cons (by rfl) (by go_simp; rfl) (by go_simp; rfl) (by go_simp) ?_
  refine eqf_cons (by rfl) (by go_simp; rfl) (by go_simp; rfl) (by go_simp) ?_
  exact eqf_last (by rfl) (by go_simp; rfl) (by go_simp; rfl) (by go_simp)
end Go.Proofs.Ytjmkpcnekghmhaa.PAll
end
section
namespace Go.Proofs.Ytjmkpcnekghmhaa.PAll
open Go.RowKit Go.Proofs.YtjmkpcnekghmhaaW.PrintWords Go.Proofs.YtjmkpcnekghmhaaW.PrintLast Go.Proofs.YtjmkpcnekghmhaaW.PrintMore
attribute [local go_sem] max2_int min2_int max_two min_two max_three min_three max_four min_four   -- for this text's walks alone
set_option linter.unusedVariables false
set_option linter.unusedSimpArgs false

theorem eqA97 (d : Nat) (w : World) (x0 y0 : Int) (x1 y1 : Int) (x2 y2 : Int) :
    (Op.equalIn (d + 2) 97 (.agg #[.int .i64 x0, .int .i64 x1, .int .i64 x2]) (.agg #[.int .i64 y0, .int .i64 y1, .int .i64 y2])).run Try.prog w = .ok (x0 == y0 && (x1 == y1 && (x2 == y2))) w := by
  refine eqA_of Try.underlying97 (by kernel_rfl) ?_
  refine eqf_cons (by rfl) (by go_simp; rfl) (by go_simp; rfl) (by go_simp) ?_
  refine eqf_cons (by rfl) (by go_simp; rfl) (by go_simp; rfl) (by go_simp) ?_
  exact eqf_last (by rfl) (by go_simp; rfl) (by go_simp; rfl) (by go_simp)
end Go.Proofs.Ytjmkpcnekghmhaa.PAll
end
section
namespace Go.Proofs.Ytjmkpcnekghmhaa.PAll
open Go.RowKit Go.Proofs.YtjmkpcnekghmhaaW.PrintWords Go.Proofs.YtjmkpcnekghmhaaW.PrintLast Go.Proofs.YtjmkpcnekghmhaaW.PrintMore
attribute [local go_sem] max2_int min2_int max_two min_two max_three min_three max_four min_four   -- for this text's walks alone
set_option linter.unusedVariables false
set_option linter.unusedSimpArgs false

theorem eqA102 (d : Nat) (w : World) (x0 y0 : Int) (x1 y1 : Int) :
    (Op.equalIn (d + 2) 102 (.agg #[.int .i64 x0, .int .i64 x1]) (.agg #[.int .i64 y0, .int .i64 y1])).run Try.prog w = .ok (x0 == y0 && (x1 == y1)) w := by
  refine eqA_of Try.underlying102 (by kernel_rfl) ?_
  refine eqf_cons (by rfl) (by go_simp; rfl) (by go_simp; rfl) (by go_simp) ?_
  exact eqf_last (by rfl) (by go_simp; rfl) (by go_simp; rfl) (by go_simp)
end Go.Proofs.Ytjmkpcnekghmhaa.PAll
end
section
namespace Go.Proofs.Ytjmkpcnekghmhaa.PAll
open Go.RowKit Go.Proofs.YtjmkpcnekghmhaaW.PrintWords Go.Proofs.YtjmkpcnekghmhaaW.PrintLast Go.Proofs.YtjmkpcnekghmhaaW.PrintMore
attribute [local go_sem] max2_int min2_int max_two min_two max_three min_three max_four min_four   -- for this text's walks alone
set_option linter.unusedVariables false
set_option linter.unusedSimpArgs false

attribute [local go_sem high] eqA102
mutual
def prebendref13_SameJob.j0 : Nat → Bool → Int → Int → Int → Int → Int → Int → Int → Int → Int → Int → Int → List (S102) → Int → Int → Int → Int → Int → Int → Int → Int → Int → Int → Int → List (S102) → Option (Bool)
 | 0, _, _, _, _, _, _, _, _, _, _, _, _, _, _, _, _, _, _, _, _, _, _, _, _, _ => none
 | k + 1, x89, x620000, x620001, x620002, x620003, x620004, x620005, x620006, x620007, x620008, x620009, x620010, x620011, x621000, x621001, x621002, x621003, x621004, x621005, x621006, x621007, x621008, x621009, x621010, x621011 => if x89 = true then (some false) else (prebendref13_SameJob.l0 k 0 x620000 x620001 x620002 x620003 x620004 x620005 x620006 x620007 x620008 x620009 x620010 x620011 x621000 x621001 x621002 x621003 x621004 x621005 x621006 x621007 x621008 x621009 x621010 x621011)
def prebendref13_SameJob.l0 : Nat → Int → Int → Int → Int → Int → Int → Int → Int → Int → Int → Int → Int → List (S102) → Int → Int → Int → Int → Int → Int → Int → Int → Int → Int → Int → List (S102) → Option (Bool)
 | 0, _, _, _, _, _, _, _, _, _, _, _, _, _, _, _, _, _, _, _, _, _, _, _, _, _ => none
 | k + 1, x5, x620000, x620001, x620002, x620003, x620004, x620005, x620006, x620007, x620008, x620009, x620010, x620011, x621000, x621001, x621002, x621003, x621004, x621005, x621006, x621007, x621008, x621009, x621010, x621011 => if x5 < (x620011.length : Int) then (if 0 ≤ x5 then (if x5 < (x621011.length : Int) then (if (!(((rd_T102 x620011 x5).f0) == ((rd_T102 x621011 x5).f0)) || (!(((rd_T102 x620011 x5).f1) == ((rd_T102 x621011 x5).f1)))) = true then (some false) else (prebendref13_SameJob.l0 k (wrap64 (x5 + 1)) x620000 x620001 x620002 x620003 x620004 x620005 x620006 x620007 x620008 x620009 x620010 x620011 x621000 x621001 x621002 x621003 x621004 x621005 x621006 x621007 x621008 x621009 x621010 x621011)) else (none)) else (none)) else (some true)
end
def prebendref13_SameJob.f (k : Nat) (a0_0 : Int) (a0_1 : Int) (a0_2 : Int) (a0_3 : Int) (a0_4 : Int) (a0_5 : Int) (a0_6 : Int) (a0_7 : Int) (a0_8 : Int) (a0_9 : Int) (a0_10 : Int) (l0_11 : List (S102)) (a1_0 : Int) (a1_1 : Int) (a1_2 : Int) (a1_3 : Int) (a1_4 : Int) (a1_5 : Int) (a1_6 : Int) (a1_7 : Int) (a1_8 : Int) (a1_9 : Int) (a1_10 : Int) (l1_11 : List (S102)) : Option (Bool) := if a0_0 = a1_0 then (if a0_1 = a1_1 then (if a0_2 = a1_2 then (if a0_3 = a1_3 then (if a0_4 = a1_4 then (if a0_5 = a1_5 then (if a0_6 = a1_6 then (if a0_7 = a1_7 then (if a0_8 = a1_8 then (if a0_9 = a1_9 then (if a0_10 = a1_10 then (prebendref13_SameJob.j0 k ((l0_11.length : Int) != (l1_11.length : Int)) a0_0 a0_1 a0_2 a0_3 a0_4 a0_5 a0_6 a0_7 a0_8 a0_9 a0_10 l0_11 a1_0 a1_1 a1_2 a1_3 a1_4 a1_5 a1_6 a1_7 a1_8 a1_9 a1_10 l1_11) else (prebendref13_SameJob.j0 k true a0_0 a0_1 a0_2 a0_3 a0_4 a0_5 a0_6 a0_7 a0_8 a0_9 a0_10 l0_11 a1_0 a1_1 a1_2 a1_3 a1_4 a1_5 a1_6 a1_7 a1_8 a1_9 a1_10 l1_11)) else (prebendref13_SameJob.j0 k true a0_0 a0_1 a0_2 a0_3 a0_4 a0_5 a0_6 a0_7 a0_8 a0_9 a0_10 l0_11 a1_0 a1_1 a1_2 a1_3 a1_4 a1_5 a1_6 a1_7 a1_8 a1_9 a1_10 l1_11)) else (prebendref13_SameJob.j0 k true a0_0 a0_1 a0_2 a0_3 a0_4 a0_5 a0_6 a0_7 a0_8 a0_9 a0_10 l0_11 a1_0 a1_1 a1_2 a1_3 a1_4 a1_5 a1_6 a1_7 a1_8 a1_9 a1_10 l1_11)) else (prebendref13_SameJob.j0 k true a0_0 a0_1 a0_2 a0_3 a0_4 a0_5 a0_6 a0_7 a0_8 a0_9 a0_10 l0_11 a1_0 a1_1 a1_2 a1_3 a1_4 a1_5 a1_6 a1_7 a1_8 a1_9 a1_10 l1_11)) else (prebendref13_SameJob.j0 k true a0_0 a0_1 a0_2 a0_3 a0_4 a0_5 a0_6 a0_7 a0_8 a0_9 a0_10 l0_11 a1_0 a1_1 a1_2 a1_3 a1_4 a1_5 a1_6 a1_7 a1_8 a1_9 a1_10 l1_11)) else (prebendref13_SameJob.j0 k true a0_0 a0_1 a0_2 a0_3 a0_4 a0_5 a0_6 a0_7 a0_8 a0_9 a0_10 l0_11 a1_0 a1_1 a1_2 a1_3 a1_4 a1_5 a1_6 a1_7 a1_8 a1_9 a1_10 l1_11)) else (prebendref13_SameJob.j0 k true a0_0 a0_1 a0_2 a0_3 a0_4 a0_5 a0_6 a0_7 a0_8 a0_9 a0_10 l0_11 a1_0 a1_1 a1_2 a1_3 a1_4 a1_5 a1_6 a1_7 a1_8 a1_9 a1_10 l1_11)) else (prebendref13_SameJob.j0 k true a0_0 a0_1 a0_2 a0_3 a0_4 a0_5 a0_6 a0_7 a0_8 a0_9 a0_10 l0_11 a1_0 a1_1 a1_2 a1_3 a1_4 a1_5 a1_6 a1_7 a1_8 a1_9 a1_10 l1_11)) else (prebendref13_SameJob.j0 k true a0_0 a0_1 a0_2 a0_3 a0_4 a0_5 a0_6 a0_7 a0_8 a0_9 a0_10 l0_11 a1_0 a1_1 a1_2 a1_3 a1_4 a1_5 a1_6 a1_7 a1_8 a1_9 a1_10 l1_11)) else (prebendref13_SameJob.j0 k true a0_0 a0_1 a0_2 a0_3 a0_4 a0_5 a0_6 a0_7 a0_8 a0_9 a0_10 l0_11 a1_0 a1_1 a1_2 a1_3 a1_4 a1_5 a1_6 a1_7 a1_8 a1_9 a1_10 l1_11)) else (prebendref13_SameJob.j0 k true a0_0 a0_1 a0_2 a0_3 a0_4 a0_5 a0_6 a0_7 a0_8 a0_9 a0_10 l0_11 a1_0 a1_1 a1_2 a1_3 a1_4 a1_5 a1_6 a1_7 a1_8 a1_9 a1_10 l1_11)
theorem prebendref13_SameJob.mono_l : ∀ k, (∀ y0 y1 y2 y3 y4 y5 y6 y7 y8 y9 y10 y11 y12 y13 y14 y15 y16 y17 y18 y19 y20 y21 y22 y23 y24, LeO (prebendref13_SameJob.j0 k y0 y1 y2 y3 y4 y5 y6 y7 y8 y9 y10 y11 y12 y13 y14 y15 y16 y17 y18 y19 y20 y21 y22 y23 y24) (prebendref13_SameJob.j0 (k + 1) y0 y1 y2 y3 y4 y5 y6 y7 y8 y9 y10 y11 y12 y13 y14 y15 y16 y17 y18 y19 y20 y21 y22 y23 y24)) ∧ (∀ y0 y1 y2 y3 y4 y5 y6 y7 y8 y9 y10 y11 y12 y13 y14 y15 y16 y17 y18 y19 y20 y21 y22 y23 y24, LeO (prebendref13_SameJob.l0 k y0 y1 y2 y3 y4 y5 y6 y7 y8 y9 y10 y11 y12 y13 y14 y15 y16 y17 y18 y19 y20 y21 y22 y23 y24) (prebendref13_SameJob.l0 (k + 1) y0 y1 y2 y3 y4 y5 y6 y7 y8 y9 y10 y11 y12 y13 y14 y15 y16 y17 y18 y19 y20 y21 y22 y23 y24))
 | 0 => ⟨fun _ _ _ _ _ _ _ _ _ _ _ _ _ _ _ _ _ _ _ _ _ _ _ _ _ r h => by simp [prebendref13_SameJob.j0] at h, fun _ _ _ _ _ _ _ _ _ _ _ _ _ _ _ _ _ _ _ _ _ _ _ _ _ r h => by simp [prebendref13_SameJob.l0] at h⟩
 | k + 1 => by
  obtain ⟨ih0, ih1⟩ := prebendref13_SameJob.mono_l k
  refine ⟨?_, ?_⟩
  ·intro y0 y1 y2 y3 y4 y5 y6 y7 y8 y9 y10 y11 y12 y13 y14 y15 y16 y17 y18 y19 y20 y21 y22 y23 y24
   unfold prebendref13_SameJob.j0
   repeat' first
   | (with_reducible exact ih0 _ _ _ _ _ _ _ _ _ _ _ _ _ _ _ _ _ _ _ _ _ _ _ _ _)
   | (with_reducible exact ih1 _ _ _ _ _ _ _ _ _ _ _ _ _ _ _ _ _ _ _ _ _ _ _ _ _)
   | (with_reducible exact LeO.refl _)
   | (with_reducible exact LeO.none _)
   | (with_reducible refine LeO.ite ?_ ?_)
   | (with_reducible refine LeO.bind ?_ (fun _ => ?_))
   | exact ih0 _ _ _ _ _ _ _ _ _ _ _ _ _ _ _ _ _ _ _ _ _ _ _ _ _
   | exact ih1 _ _ _ _ _ _ _ _ _ _ _ _ _ _ _ _ _ _ _ _ _ _ _ _ _
   | exact LeO.none _
   | refine LeO.ite ?_ ?_
   | refine LeO.bind ?_ (fun _ => ?_)
  ·intro y0 y1 y2 y3 y4 y5 y6 y7 y8 y9 y10 y11 y12 y13 y14 y15 y16 y17 y18 y19 y20 y21 y22 y23 y24
   unfold prebendref13_SameJob.l0
   repeat' first
   | (with_reducible exact ih0 _ _ _ _ _ _ _ _ _ _ _ _ _ _ _ _ _ _ _ _ _ _ _ _ _)
   | (with_reducible exact ih1 _ _ _ _ _ _ _ _ _ _ _ _ _ _ _ _ _ _ _ _ _ _ _ _ _)
   | (with_reducible exact LeO.refl _)
   | (with_reducible exact LeO.none _)
   | (with_reducible refine LeO.ite ?_ ?_)
   | (with_reducible refine LeO.bind ?_ (fun _ => ?_))
   | exact ih0 _ _ _ _ _ _ _ _ _ _ _ _ _ _ _ _ _ _ _ _ _ _ _ _ _
   | exact ih1 _ _ _ _ _ _ _ _ _ _ _ _ _ _ _ _ _ _ _ _ _ _ _ _ _
   | exact LeO.none _
   | refine LeO.ite ?_ ?_
   | refine LeO.bind ?_ (fun _ => ?_)
theorem prebendref13_SameJob.mono : ∀ a0 a1 a2 a3 a4 a5 a6 a7 a8 a9 a10 a11 a12 a13 a14 a15 a16 a17 a18 a19 a20 a21 a22 a23 k, LeO (prebendref13_SameJob.f k a0 a1 a2 a3 a4 a5 a6 a7 a8 a9 a10 a11 a12 a13 a14 a15 a16 a17 a18 a19 a20 a21 a22 a23) (prebendref13_SameJob.f (k + 1) a0 a1 a2 a3 a4 a5 a6 a7 a8 a9 a10 a11 a12 a13 a14 a15 a16 a17 a18 a19 a20 a21 a22 a23) := by
 intro a0 a1 a2 a3 a4 a5 a6 a7 a8 a9 a10 a11 a12 a13 a14 a15 a16 a17 a18 a19 a20 a21 a22 a23 k
 obtain ⟨ih0, ih1⟩ := prebendref13_SameJob.mono_l k
 unfold prebendref13_SameJob.f
 repeat' first
   | (with_reducible exact ih0 _ _ _ _ _ _ _ _ _ _ _ _ _ _ _ _ _ _ _ _ _ _ _ _ _)
   | (with_reducible exact ih1 _ _ _ _ _ _ _ _ _ _ _ _ _ _ _ _ _ _ _ _ _ _ _ _ _)
   | (with_reducible exact LeO.refl _)
   | (with_reducible exact LeO.none _)
   | (with_reducible refine LeO.ite ?_ ?_)
   | (with_reducible refine LeO.bind ?_ (fun _ => ?_))
   | exact ih0 _ _ _ _ _ _ _ _ _ _ _ _ _ _ _ _ _ _ _ _ _ _ _ _ _
   | exact ih1 _ _ _ _ _ _ _ _ _ _ _ _ _ _ _ _ _ _ _ _ _ _ _ _ _
   | exact LeO.none _
   | refine LeO.ite ?_ ?_
   | refine LeO.bind ?_ (fun _ => ?_)
set_option maxHeartbeats 8000000 in
set_option maxRecDepth 100000 in
theorem prebendref13_SameJob.calls (k : Nat) (a0_0 : Int) (a0_1 : Int) (a0_2 : Int) (a0_3 : Int) (a0_4 : Int) (a0_5 : Int) (a0_6 : Int) (a0_7 : Int) (a0_8 : Int) (a0_9 : Int) (a0_10 : Int) (A0_11 : Option Addr) (c0_11 : Nat) (l0_11 : List (S102)) (a1_0 : Int) (a1_1 : Int) (a1_2 : Int) (a1_3 : Int) (a1_4 : Int) (a1_5 : Int) (a1_6 : Int) (a1_7 : Int) (a1_8 : Int) (a1_9 : Int) (a1_10 : Int) (A1_11 : Option Addr) (c1_11 : Nat) (l1_11 : List (S102)) (r : Bool) (w : World) (hr0_11 : Kd.C k102 w A0_11 l0_11.length l0_11) (hc0_11 : l0_11.length ≤ c0_11) (hr1_11 : Kd.C k102 w A1_11 l1_11.length l1_11) (hc1_11 : l1_11.length ≤ c1_11) (h : prebendref13_SameJob.f k a0_0 a0_1 a0_2 a0_3 a0_4 a0_5 a0_6 a0_7 a0_8 a0_9 a0_10 l0_11 a1_0 a1_1 a1_2 a1_3 a1_4 a1_5 a1_6 a1_7 a1_8 a1_9 a1_10 l1_11 = some r) :
  Calls Try.prog 66 #[.agg #[.int .i64 a0_0, .int .i64 a0_1, .int .i64 a0_2, .int .i64 a0_3, .int .i64 a0_4, .int .i64 a0_5, .int .i64 a0_6, .int .i64 a0_7, .int .i64 a0_8, .int .i64 a0_9, .int .i64 a0_10, .slice A0_11 l0_11.length c0_11], .agg #[.int .i64 a1_0, .int .i64 a1_1, .int .i64 a1_2, .int .i64 a1_3, .int .i64 a1_4, .int .i64 a1_5, .int .i64 a1_6, .int .i64 a1_7, .int .i64 a1_8, .int .i64 a1_9, .int .i64 a1_10, .slice A1_11 l1_11.length c1_11]] w fun e w' => e = .returned (.bool r) ∧ Below w.heap.size w w' := by
 have hu100 := Try.underlying100
 have hu102 := Try.underlying102
 have HR0_11 := Aside0.mk hr0_11
 have HC0_11 := Aside0.mk hc0_11
 clear hr0_11; clear hc0_11
 have HR1_11 := Aside0.mk hr1_11
 have HC1_11 := Aside0.mk hc1_11
 clear hr1_11; clear hc1_11
 have HB := Aside0.mk (Below.refl w.heap.size w)
 have H : (if a0_0 = a1_0 then (if a0_1 = a1_1 then (if a0_2 = a1_2 then (if a0_3 = a1_3 then (if a0_4 = a1_4 then (if a0_5 = a1_5 then (if a0_6 = a1_6 then (if a0_7 = a1_7 then (if a0_8 = a1_8 then (if a0_9 = a1_9 then (if a0_10 = a1_10 then (prebendref13_SameJob.j0 k ((l0_11.length : Int) != (l1_11.length : Int)) a0_0 a0_1 a0_2 a0_3 a0_4 a0_5 a0_6 a0_7 a0_8 a0_9 a0_10 l0_11 a1_0 a1_1 a1_2 a1_3 a1_4 a1_5 a1_6 a1_7 a1_8 a1_9 a1_10 l1_11) else (prebendref13_SameJob.j0 k true a0_0 a0_1 a0_2 a0_3 a0_4 a0_5 a0_6 a0_7 a0_8 a0_9 a0_10 l0_11 a1_0 a1_1 a1_2 a1_3 a1_4 a1_5 a1_6 a1_7 a1_8 a1_9 a1_10 l1_11)) else (prebendref13_SameJob.j0 k true a0_0 a0_1 a0_2 a0_3 a0_4 a0_5 a0_6 a0_7 a0_8 a0_9 a0_10 l0_11 a1_0 a1_1 a1_2 a1_3 a1_4 a1_5 a1_6 a1_7 a1_8 a1_9 a1_10 l1_11)) else (prebendref13_SameJob.j0 k true a0_0 a0_1 a0_2 a0_3 a0_4 a0_5 a0_6 a0_7 a0_8 a0_9 a0_10 l0_11 a1_0 a1_1 a1_2 a1_3 a1_4 a1_5 a1_6 a1_7 a1_8 a1_9 a1_10 l1_11)) else (prebendref13_SameJob.j0 k true a0_0 a0_1 a0_2 a0_3 a0_4 a0_5 a0_6 a0_7 a0_8 a0_9 a0_10 l0_11 a1_0 a1_1 a1_2 a1_3 a1_4 a1_5 a1_6 a1_7 a1_8 a1_9 a1_10 l1_11)) else (prebendref13_SameJob.j0 k true a0_0 a0_1 a0_2 a0_3 a0_4 a0_5 a0_6 a0_7 a0_8 a0_9 a0_10 l0_11 a1_0 a1_1 a1_2 a1_3 a1_4 a1_5 a1_6 a1_7 a1_8 a1_9 a1_10 l1_11)) else (prebendref13_SameJob.j0 k true a0_0 a0_1 a0_2 a0_3 a0_4 a0_5 a0_6 a0_7 a0_8 a0_9 a0_10 l0_11 a1_0 a1_1 a1_2 a1_3 a1_4 a1_5 a1_6 a1_7 a1_8 a1_9 a1_10 l1_11)) else (prebendref13_SameJob.j0 k true a0_0 a0_1 a0_2 a0_3 a0_4 a0_5 a0_6 a0_7 a0_8 a0_9 a0_10 l0_11 a1_0 a1_1 a1_2 a1_3 a1_4 a1_5 a1_6 a1_7 a1_8 a1_9 a1_10 l1_11)) else (prebendref13_SameJob.j0 k true a0_0 a0_1 a0_2 a0_3 a0_4 a0_5 a0_6 a0_7 a0_8 a0_9 a0_10 l0_11 a1_0 a1_1 a1_2 a1_3 a1_4 a1_5 a1_6 a1_7 a1_8 a1_9 a1_10 l1_11)) else (prebendref13_SameJob.j0 k true a0_0 a0_1 a0_2 a0_3 a0_4 a0_5 a0_6 a0_7 a0_8 a0_9 a0_10 l0_11 a1_0 a1_1 a1_2 a1_3 a1_4 a1_5 a1_6 a1_7 a1_8 a1_9 a1_10 l1_11)) else (prebendref13_SameJob.j0 k true a0_0 a0_1 a0_2 a0_3 a0_4 a0_5 a0_6 a0_7 a0_8 a0_9 a0_10 l0_11 a1_0 a1_1 a1_2 a1_3 a1_4 a1_5 a1_6 a1_7 a1_8 a1_9 a1_10 l1_11)) else (prebendref13_SameJob.j0 k true a0_0 a0_1 a0_2 a0_3 a0_4 a0_5 a0_6 a0_7 a0_8 a0_9 a0_10 l0_11 a1_0 a1_1 a1_2 a1_3 a1_4 a1_5 a1_6 a1_7 a1_8 a1_9 a1_10 l1_11)) = some r := h
 clear h
 have HC3 := Aside0.mk H
 clear H
 go_enter Try.func66, Try.ntmps66
 go_upto_region 1 with (first | ((with_reducible refine gate_dst (N := 2) rfl ?_); (try (refine gate_guard (by rfl) ?_; dsimp only)); refine box_event ?hg (N := 2) ?hd (cs := #[.int .i64 a0_0, .int .i64 a0_1, .int .i64 a0_2, .int .i64 a0_3, .int .i64 a0_4, .int .i64 a0_5, .int .i64 a0_6, .int .i64 a0_7, .int .i64 a0_8, .int .i64 a0_9, .int .i64 a0_10, .slice A0_11 l0_11.length c0_11]) (t := 100) ?hr ?_; (case hd => rfl); (case hg => rfl); (case hr => first | (go_simp; done) | (go_simp; rfl)); intro gb619 hg w4 hbox hb; have n0_ := Aside0.mk (below_step (mB HB.out) hb); have n1_ := Aside0.mk (hbox); have n2_ := Aside0.mk ((by rw [hg]; exact (below_size (mB HB.out)) : w.heap.size ≤ gb619)); have n3_ := Aside0.mk ((by rw [hg]; exact (below_size (mB HB.out)) : w.heap.size ≤ gb619)); clear HB; have HB := n0_; have BK619 := n1_; have GW619 := n2_; have GE619 := n3_; clear n0_ n1_ n2_ n3_; clear hb hbox hg) | ((with_reducible refine gate_dst (N := 3) rfl ?_); (try (refine gate_guard (by rfl) ?_; dsimp only)); refine box_event ?hg (N := 3) ?hd (cs := #[.int .i64 a1_0, .int .i64 a1_1, .int .i64 a1_2, .int .i64 a1_3, .int .i64 a1_4, .int .i64 a1_5, .int .i64 a1_6, .int .i64 a1_7, .int .i64 a1_8, .int .i64 a1_9, .int .i64 a1_10, .slice A1_11 l1_11.length c1_11]) (t := 100) ?hr ?_; (case hd => rfl); (case hg => rfl); (case hr => first | (go_simp; done) | (go_simp; rfl)); intro gb620 hg w5 hbox hb; have n0_ := Aside0.mk (blk_below (g := gb619) (o := .cells #[.int .i64 a0_0, .int .i64 a0_1, .int .i64 a0_2, .int .i64 a0_3, .int .i64 a0_4, .int .i64 a0_5, .int .i64 a0_6, .int .i64 a0_7, .int .i64 a0_8, .int .i64 a0_9, .int .i64 a0_10, .slice A0_11 l0_11.length c0_11] 100 (0, 0)) (mBK BK619.out) hb); have n1_ := Aside0.mk (below_step (mBs HB.out) hb); have n2_ := Aside0.mk (hbox); have n3_ := Aside0.mk ((by rw [hg]; exact (below_size (mBs HB.out)) : w.heap.size ≤ gb620)); have n4_ := Aside0.mk ((by rw [hg]; exact (below_size (mBs HB.out)) : w.heap.size ≤ gb620)); have n5_ := Aside0.mk ((by rw [hg]; exact Nat.ne_of_lt (blk_lt (g := gb619) (o := .cells #[.int .i64 a0_0, .int .i64 a0_1, .int .i64 a0_2, .int .i64 a0_3, .int .i64 a0_4, .int .i64 a0_5, .int .i64 a0_6, .int .i64 a0_7, .int .i64 a0_8, .int .i64 a0_9, .int .i64 a0_10, .slice A0_11 l0_11.length c0_11] 100 (0, 0)) (mBK BK619.out)) : gb619 ≠ gb620)); have n6_ := Aside0.mk ((by rw [hg]; exact Nat.ne_of_gt (blk_lt (g := gb619) (o := .cells #[.int .i64 a0_0, .int .i64 a0_1, .int .i64 a0_2, .int .i64 a0_3, .int .i64 a0_4, .int .i64 a0_5, .int .i64 a0_6, .int .i64 a0_7, .int .i64 a0_8, .int .i64 a0_9, .int .i64 a0_10, .slice A0_11 l0_11.length c0_11] 100 (0, 0)) (mBK BK619.out)) : gb620 ≠ gb619)); clear BK619; clear HB; have BK619 := n0_; have HB := n1_; have BK620 := n2_; have GW620 := n3_; have GE620 := n4_; have NB619_620 := n5_; have NB620_619 := n6_; clear n0_ n1_ n2_ n3_ n4_ n5_ n6_; clear hb hbox hg))
 repeat (go_quiet (first | ((with_reducible refine gate_dst (N := 2) rfl ?_); (try (refine gate_guard (by rfl) ?_; dsimp only)); refine box_event ?hg (N := 2) ?hd (cs := #[.int .i64 a0_0, .int .i64 a0_1, .int .i64 a0_2, .int .i64 a0_3, .int .i64 a0_4, .int .i64 a0_5, .int .i64 a0_6, .int .i64 a0_7, .int .i64 a0_8, .int .i64 a0_9, .int .i64 a0_10, .slice A0_11 l0_11.length c0_11]) (t := 100) ?hr ?_; (case hd => rfl); (case hg => rfl); (case hr => first | (go_simp; done) | (go_simp; rfl)); intro gb619 hg w4 hbox hb; have n0_ := Aside0.mk (below_step (mB HB.out) hb); have n1_ := Aside0.mk (hbox); have n2_ := Aside0.mk ((by rw [hg]; exact (below_size (mB HB.out)) : w.heap.size ≤ gb619)); have n3_ := Aside0.mk ((by rw [hg]; exact (below_size (mB HB.out)) : w.heap.size ≤ gb619)); clear HB; have HB := n0_; have BK619 := n1_; have GW619 := n2_; have GE619 := n3_; clear n0_ n1_ n2_ n3_; clear hb hbox hg) | ((with_reducible refine gate_dst (N := 3) rfl ?_); (try (refine gate_guard (by rfl) ?_; dsimp only)); refine box_event ?hg (N := 3) ?hd (cs := #[.int .i64 a1_0, .int .i64 a1_1, .int .i64 a1_2, .int .i64 a1_3, .int .i64 a1_4, .int .i64 a1_5, .int .i64 a1_6, .int .i64 a1_7, .int .i64 a1_8, .int .i64 a1_9, .int .i64 a1_10, .slice A1_11 l1_11.length c1_11]) (t := 100) ?hr ?_; (case hd => rfl); (case hg => rfl); (case hr => first | (go_simp; done) | (go_simp; rfl)); intro gb620 hg w5 hbox hb; have n0_ := Aside0.mk (blk_below (g := gb619) (o := .cells #[.int .i64 a0_0, .int .i64 a0_1, .int .i64 a0_2, .int .i64 a0_3, .int .i64 a0_4, .int .i64 a0_5, .int .i64 a0_6, .int .i64 a0_7, .int .i64 a0_8, .int .i64 a0_9, .int .i64 a0_10, .slice A0_11 l0_11.length c0_11] 100 (0, 0)) (mBK BK619.out) hb); have n1_ := Aside0.mk (below_step (mBs HB.out) hb); have n2_ := Aside0.mk (hbox); have n3_ := Aside0.mk ((by rw [hg]; exact (below_size (mBs HB.out)) : w.heap.size ≤ gb620)); have n4_ := Aside0.mk ((by rw [hg]; exact (below_size (mBs HB.out)) : w.heap.size ≤ gb620)); have n5_ := Aside0.mk ((by rw [hg]; exact Nat.ne_of_lt (blk_lt (g := gb619) (o := .cells #[.int .i64 a0_0, .int .i64 a0_1, .int .i64 a0_2, .int .i64 a0_3, .int .i64 a0_4, .int .i64 a0_5, .int .i64 a0_6, .int .i64 a0_7, .int .i64 a0_8, .int .i64 a0_9, .int .i64 a0_10, .slice A0_11 l0_11.length c0_11] 100 (0, 0)) (mBK BK619.out)) : gb619 ≠ gb620)); have n6_ := Aside0.mk ((by rw [hg]; exact Nat.ne_of_gt (blk_lt (g := gb619) (o := .cells #[.int .i64 a0_0, .int .i64 a0_1, .int .i64 a0_2, .int .i64 a0_3, .int .i64 a0_4, .int .i64 a0_5, .int .i64 a0_6, .int .i64 a0_7, .int .i64 a0_8, .int .i64 a0_9, .int .i64 a0_10, .slice A0_11 l0_11.length c0_11] 100 (0, 0)) (mBK BK619.out)) : gb620 ≠ gb619)); clear BK619; clear HB; have BK619 := n0_; have HB := n1_; have BK620 := n2_; have GW620 := n3_; have GE620 := n4_; have NB619_620 := n5_; have NB620_619 := n6_; clear n0_ n1_ n2_ n3_ n4_ n5_ n6_; clear hb hbox hg)); go_upto_region 1 with (first | ((with_reducible refine gate_dst (N := 2) rfl ?_); (try (refine gate_guard (by rfl) ?_; dsimp only)); refine box_event ?hg (N := 2) ?hd (cs := #[.int .i64 a0_0, .int .i64 a0_1, .int .i64 a0_2, .int .i64 a0_3, .int .i64 a0_4, .int .i64 a0_5, .int .i64 a0_6, .int .i64 a0_7, .int .i64 a0_8, .int .i64 a0_9, .int .i64 a0_10, .slice A0_11 l0_11.length c0_11]) (t := 100) ?hr ?_; (case hd => rfl); (case hg => rfl); (case hr => first | (go_simp; done) | (go_simp; rfl)); intro gb619 hg w4 hbox hb; have n0_ := Aside0.mk (below_step (mB HB.out) hb); have n1_ := Aside0.mk (hbox); have n2_ := Aside0.mk ((by rw [hg]; exact (below_size (mB HB.out)) : w.heap.size ≤ gb619)); have n3_ := Aside0.mk ((by rw [hg]; exact (below_size (mB HB.out)) : w.heap.size ≤ gb619)); clear HB; have HB := n0_; have BK619 := n1_; have GW619 := n2_; have GE619 := n3_; clear n0_ n1_ n2_ n3_; clear hb hbox hg) | ((with_reducible refine gate_dst (N := 3) rfl ?_); (try (refine gate_guard (by rfl) ?_; dsimp only)); refine box_event ?hg (N := 3) ?hd (cs := #[.int .i64 a1_0, .int .i64 a1_1, .int .i64 a1_2, .int .i64 a1_3, .int .i64 a1_4, .int .i64 a1_5, .int .i64 a1_6, .int .i64 a1_7, .int .i64 a1_8, .int .i64 a1_9, .int .i64 a1_10, .slice A1_11 l1_11.length c1_11]) (t := 100) ?hr ?_; (case hd => rfl); (case hg => rfl); (case hr => first | (go_simp; done) | (go_simp; rfl)); intro gb620 hg w5 hbox hb; have n0_ := Aside0.mk (blk_below (g := gb619) (o := .cells #[.int .i64 a0_0, .int .i64 a0_1, .int .i64 a0_2, .int .i64 a0_3, .int .i64 a0_4, .int .i64 a0_5, .int .i64 a0_6, .int .i64 a0_7, .int .i64 a0_8, .int .i64 a0_9, .int .i64 a0_10, .slice A0_11 l0_11.length c0_11] 100 (0, 0)) (mBK BK619.out) hb); have n1_ := Aside0.mk (below_step (mBs HB.out) hb); have n2_ := Aside0.mk (hbox); have n3_ := Aside0.mk ((by rw [hg]; exact (below_size (mBs HB.out)) : w.heap.size ≤ gb620)); have n4_ := Aside0.mk ((by rw [hg]; exact (below_size (mBs HB.out)) : w.heap.size ≤ gb620)); have n5_ := Aside0.mk ((by rw [hg]; exact Nat.ne_of_lt (blk_lt (g := gb619) (o := .cells #[.int .i64 a0_0, .int .i64 a0_1, .int .i64 a0_2, .int .i64 a0_3, .int .i64 a0_4, .int .i64 a0_5, .int .i64 a0_6, .int .i64 a0_7, .int .i64 a0_8, .int .i64 a0_9, .int .i64 a0_10, .slice A0_11 l0_11.length c0_11] 100 (0, 0)) (mBK BK619.out)) : gb619 ≠ gb620)); have n6_ := Aside0.mk ((by rw [hg]; exact Nat.ne_of_gt (blk_lt (g := gb619) (o := .cells #[.int .i64 a0_0, .int .i64 a0_1, .int .i64 a0_2, .int .i64 a0_3, .int .i64 a0_4, .int .i64 a0_5, .int .i64 a0_6, .int .i64 a0_7, .int .i64 a0_8, .int .i64 a0_9, .int .i64 a0_10, .slice A0_11 l0_11.length c0_11] 100 (0, 0)) (mBK BK619.out)) : gb620 ≠ gb619)); clear BK619; clear HB; have BK619 := n0_; have HB := n1_; have BK620 := n2_; have GW620 := n3_; have GE620 := n4_; have NB619_620 := n5_; have NB620_619 := n6_; clear n0_ n1_ n2_ n3_ n4_ n5_ n6_; clear hb hbox hg)))
 (try simp only [Act.put, List.setIfInBounds_toArray, List.set_cons_zero, List.set_cons_succ])
 go_cut [89] (fun v89 wc => ∃ (kq : Nat) (x89_2 : Bool), v89 = .bool x89_2 ∧ Aside0 (prebendref13_SameJob.j0 kq x89_2 a0_0 a0_1 a0_2 a0_3 a0_4 a0_5 a0_6 a0_7 a0_8 a0_9 a0_10 l0_11 a1_0 a1_1 a1_2 a1_3 a1_4 a1_5 a1_6 a1_7 a1_8 a1_9 a1_10 l1_11 = some r) ∧ Aside0 (kq ≤ k) ∧ Aside0 (wc.heap[gb619]? = some (.cells #[.int .i64 a0_0, .int .i64 a0_1, .int .i64 a0_2, .int .i64 a0_3, .int .i64 a0_4, .int .i64 a0_5, .int .i64 a0_6, .int .i64 a0_7, .int .i64 a0_8, .int .i64 a0_9, .int .i64 a0_10, (.slice A0_11 l0_11.length c0_11)] 100 (0, 0))) ∧ Aside0 (wc.heap[gb620]? = some (.cells #[.int .i64 a1_0, .int .i64 a1_1, .int .i64 a1_2, .int .i64 a1_3, .int .i64 a1_4, .int .i64 a1_5, .int .i64 a1_6, .int .i64 a1_7, .int .i64 a1_8, .int .i64 a1_9, .int .i64 a1_10, (.slice A1_11 l1_11.length c1_11)] 100 (0, 0))) ∧ Aside0 (Below w.heap.size w wc))
 case first =>
  have H := HC3.out
  clear HC3
  by_cases c6 : a0_0 = a1_0
  ·rw [if_pos c6] at H
   have c6b0 : (a0_0 == a1_0) = true := beq_iff_eq.mpr c6
   have c6b1 : (a0_0 != a1_0) = false := bne_eq_false_iff_eq.mpr c6
   clear c6
   (first | rw [c6b0] | (simp only [i64_w, i32_w]; rw [c6b0]) | skip)
   by_cases c7 : a0_1 = a1_1
   ·rw [if_pos c7] at H
    have c7b0 : (a0_1 == a1_1) = true := beq_iff_eq.mpr c7
    have c7b1 : (a0_1 != a1_1) = false := bne_eq_false_iff_eq.mpr c7
    clear c7
    by_cases c8 : a0_2 = a1_2
    ·rw [if_pos c8] at H
     have c8b0 : (a0_2 == a1_2) = true := beq_iff_eq.mpr c8
     have c8b1 : (a0_2 != a1_2) = false := bne_eq_false_iff_eq.mpr c8
     clear c8
     by_cases c9 : a0_3 = a1_3
     ·rw [if_pos c9] at H
      have c9b0 : (a0_3 == a1_3) = true := beq_iff_eq.mpr c9
      have c9b1 : (a0_3 != a1_3) = false := bne_eq_false_iff_eq.mpr c9
      clear c9
      by_cases c10 : a0_4 = a1_4
      ·rw [if_pos c10] at H
       have c10b0 : (a0_4 == a1_4) = true := beq_iff_eq.mpr c10
       have c10b1 : (a0_4 != a1_4) = false := bne_eq_false_iff_eq.mpr c10
       clear c10
       by_cases c11 : a0_5 = a1_5
       ·rw [if_pos c11] at H
        have c11b0 : (a0_5 == a1_5) = true := beq_iff_eq.mpr c11
        have c11b1 : (a0_5 != a1_5) = false := bne_eq_false_iff_eq.mpr c11
        clear c11
        by_cases c12 : a0_6 = a1_6
        ·rw [if_pos c12] at H
         have c12b0 : (a0_6 == a1_6) = true := beq_iff_eq.mpr c12
         have c12b1 : (a0_6 != a1_6) = false := bne_eq_false_iff_eq.mpr c12
         clear c12
         by_cases c13 : a0_7 = a1_7
         ·rw [if_pos c13] at H
          have c13b0 : (a0_7 == a1_7) = true := beq_iff_eq.mpr c13
          have c13b1 : (a0_7 != a1_7) = false := bne_eq_false_iff_eq.mpr c13
          clear c13
          by_cases c14 : a0_8 = a1_8
          ·rw [if_pos c14] at H
           have c14b0 : (a0_8 == a1_8) = true := beq_iff_eq.mpr c14
           have c14b1 : (a0_8 != a1_8) = false := bne_eq_false_iff_eq.mpr c14
           clear c14
           by_cases c15 : a0_9 = a1_9
           ·rw [if_pos c15] at H
            have c15b0 : (a0_9 == a1_9) = true := beq_iff_eq.mpr c15
            have c15b1 : (a0_9 != a1_9) = false := bne_eq_false_iff_eq.mpr c15
            clear c15
            by_cases c16 : a0_10 = a1_10
            ·rw [if_pos c16] at H
             have c16b0 : (a0_10 == a1_10) = true := beq_iff_eq.mpr c16
             have c16b1 : (a0_10 != a1_10) = false := bne_eq_false_iff_eq.mpr c16
             clear c16
             have H' := Aside0.mk H
             clear H
             have hnb17 := NB619_620.out
             have hnc17 := NB620_619.out
             have hcz18_0 : w5.cell? ⟨gb619, 0, none⟩ = some (.int .i64 a0_0) := (blk_cell BK619.out 0).trans rfl
             have hcz18_1 : w5.cell? ⟨gb619, 1, none⟩ = some (.int .i64 a0_1) := (blk_cell BK619.out 1).trans rfl
             have hcz18_2 : w5.cell? ⟨gb619, 2, none⟩ = some (.int .i64 a0_2) := (blk_cell BK619.out 2).trans rfl
             have hcz18_3 : w5.cell? ⟨gb619, 3, none⟩ = some (.int .i64 a0_3) := (blk_cell BK619.out 3).trans rfl
             have hcz18_4 : w5.cell? ⟨gb619, 4, none⟩ = some (.int .i64 a0_4) := (blk_cell BK619.out 4).trans rfl
             have hcz18_5 : w5.cell? ⟨gb619, 5, none⟩ = some (.int .i64 a0_5) := (blk_cell BK619.out 5).trans rfl
             have hcz18_6 : w5.cell? ⟨gb619, 6, none⟩ = some (.int .i64 a0_6) := (blk_cell BK619.out 6).trans rfl
             have hcz18_7 : w5.cell? ⟨gb619, 7, none⟩ = some (.int .i64 a0_7) := (blk_cell BK619.out 7).trans rfl
             have hcz18_8 : w5.cell? ⟨gb619, 8, none⟩ = some (.int .i64 a0_8) := (blk_cell BK619.out 8).trans rfl
             have hcz18_9 : w5.cell? ⟨gb619, 9, none⟩ = some (.int .i64 a0_9) := (blk_cell BK619.out 9).trans rfl
             have hcz18_10 : w5.cell? ⟨gb619, 10, none⟩ = some (.int .i64 a0_10) := (blk_cell BK619.out 10).trans rfl
             have hcz18_11 : w5.cell? ⟨gb619, 11, none⟩ = some (.slice A0_11 l0_11.length c0_11) := (blk_cell BK619.out 11).trans rfl
             have hfz18_0 := blk_frozen BK619.out 0
             have hfz18_1 := blk_frozen BK619.out 1
             have hfz18_2 := blk_frozen BK619.out 2
             have hfz18_3 := blk_frozen BK619.out 3
             have hfz18_4 := blk_frozen BK619.out 4
             have hfz18_5 := blk_frozen BK619.out 5
             have hfz18_6 := blk_frozen BK619.out 6
             have hfz18_7 := blk_frozen BK619.out 7
             have hfz18_8 := blk_frozen BK619.out 8
             have hfz18_9 := blk_frozen BK619.out 9
             have hfz18_10 := blk_frozen BK619.out 10
             have hfz18_11 := blk_frozen BK619.out 11
             have hcz19_0 : w5.cell? ⟨gb620, 0, none⟩ = some (.int .i64 a1_0) := (blk_cell BK620.out 0).trans rfl
             have hcz19_1 : w5.cell? ⟨gb620, 1, none⟩ = some (.int .i64 a1_1) := (blk_cell BK620.out 1).trans rfl
             have hcz19_2 : w5.cell? ⟨gb620, 2, none⟩ = some (.int .i64 a1_2) := (blk_cell BK620.out 2).trans rfl
             have hcz19_3 : w5.cell? ⟨gb620, 3, none⟩ = some (.int .i64 a1_3) := (blk_cell BK620.out 3).trans rfl
             have hcz19_4 : w5.cell? ⟨gb620, 4, none⟩ = some (.int .i64 a1_4) := (blk_cell BK620.out 4).trans rfl
             have hcz19_5 : w5.cell? ⟨gb620, 5, none⟩ = some (.int .i64 a1_5) := (blk_cell BK620.out 5).trans rfl
             have hcz19_6 : w5.cell? ⟨gb620, 6, none⟩ = some (.int .i64 a1_6) := (blk_cell BK620.out 6).trans rfl
             have hcz19_7 : w5.cell? ⟨gb620, 7, none⟩ = some (.int .i64 a1_7) := (blk_cell BK620.out 7).trans rfl
             have hcz19_8 : w5.cell? ⟨gb620, 8, none⟩ = some (.int .i64 a1_8) := (blk_cell BK620.out 8).trans rfl
             have hcz19_9 : w5.cell? ⟨gb620, 9, none⟩ = some (.int .i64 a1_9) := (blk_cell BK620.out 9).trans rfl
             have hcz19_10 : w5.cell? ⟨gb620, 10, none⟩ = some (.int .i64 a1_10) := (blk_cell BK620.out 10).trans rfl
             have hcz19_11 : w5.cell? ⟨gb620, 11, none⟩ = some (.slice A1_11 l1_11.length c1_11) := (blk_cell BK620.out 11).trans rfl
             have hfz19_0 := blk_frozen BK620.out 0
             have hfz19_1 := blk_frozen BK620.out 1
             have hfz19_2 := blk_frozen BK620.out 2
             have hfz19_3 := blk_frozen BK620.out 3
             have hfz19_4 := blk_frozen BK620.out 4
             have hfz19_5 := blk_frozen BK620.out 5
             have hfz19_6 := blk_frozen BK620.out 6
             have hfz19_7 := blk_frozen BK620.out 7
             have hfz19_8 := blk_frozen BK620.out 8
             have hfz19_9 := blk_frozen BK620.out 9
             have hfz19_10 := blk_frozen BK620.out 10
             have hfz19_11 := blk_frozen BK620.out 11
             go_wp2
             repeat (go_quiet (fail); try go_wp2)
             go_meet
             case rel => exact ⟨_, (((l0_11.length : Int) != (l1_11.length : Int))), ez, H', ⟨by first | omega | exact Nat.le_refl _⟩, ⟨mBK BK619.out⟩, ⟨mBK BK620.out⟩, ⟨mBs HB.out⟩⟩
            ·rw [if_neg c16] at H
             have c16b0 : (a0_10 == a1_10) = false := beq_eq_false_iff_ne.mpr c16
             have c16b1 : (a0_10 != a1_10) = true := bne_iff_ne.mpr c16
             have H' := Aside0.mk H
             clear H
             have hnb20 := NB619_620.out
             have hnc20 := NB620_619.out
             have hcz21_0 : w5.cell? ⟨gb619, 0, none⟩ = some (.int .i64 a0_0) := (blk_cell BK619.out 0).trans rfl
             have hcz21_1 : w5.cell? ⟨gb619, 1, none⟩ = some (.int .i64 a0_1) := (blk_cell BK619.out 1).trans rfl
             have hcz21_2 : w5.cell? ⟨gb619, 2, none⟩ = some (.int .i64 a0_2) := (blk_cell BK619.out 2).trans rfl
             have hcz21_3 : w5.cell? ⟨gb619, 3, none⟩ = some (.int .i64 a0_3) := (blk_cell BK619.out 3).trans rfl
             have hcz21_4 : w5.cell? ⟨gb619, 4, none⟩ = some (.int .i64 a0_4) := (blk_cell BK619.out 4).trans rfl
             have hcz21_5 : w5.cell? ⟨gb619, 5, none⟩ = some (.int .i64 a0_5) := (blk_cell BK619.out 5).trans rfl
             have hcz21_6 : w5.cell? ⟨gb619, 6, none⟩ = some (.int .i64 a0_6) := (blk_cell BK619.out 6).trans rfl
             have hcz21_7 : w5.cell? ⟨gb619, 7, none⟩ = some (.int .i64 a0_7) := (blk_cell BK619.out 7).trans rfl
             have hcz21_8 : w5.cell? ⟨gb619, 8, none⟩ = some (.int .i64 a0_8) := (blk_cell BK619.out 8).trans rfl
             have hcz21_9 : w5.cell? ⟨gb619, 9, none⟩ = some (.int .i64 a0_9) := (blk_cell BK619.out 9).trans rfl
             have hcz21_10 : w5.cell? ⟨gb619, 10, none⟩ = some (.int .i64 a0_10) := (blk_cell BK619.out 10).trans rfl
             have hcz21_11 : w5.cell? ⟨gb619, 11, none⟩ = some (.slice A0_11 l0_11.length c0_11) := (blk_cell BK619.out 11).trans rfl
             have hfz21_0 := blk_frozen BK619.out 0
             have hfz21_1 := blk_frozen BK619.out 1
             have hfz21_2 := blk_frozen BK619.out 2
             have hfz21_3 := blk_frozen BK619.out 3
             have hfz21_4 := blk_frozen BK619.out 4
             have hfz21_5 := blk_frozen BK619.out 5
             have hfz21_6 := blk_frozen BK619.out 6
             have hfz21_7 := blk_frozen BK619.out 7
             have hfz21_8 := blk_frozen BK619.out 8
             have hfz21_9 := blk_frozen BK619.out 9
             have hfz21_10 := blk_frozen BK619.out 10
             have hfz21_11 := blk_frozen BK619.out 11
             have hcz22_0 : w5.cell? ⟨gb620, 0, none⟩ = some (.int .i64 a1_0) := (blk_cell BK620.out 0).trans rfl
             have hcz22_1 : w5.cell? ⟨gb620, 1, none⟩ = some (.int .i64 a1_1) := (blk_cell BK620.out 1).trans rfl
             have hcz22_2 : w5.cell? ⟨gb620, 2, none⟩ = some (.int .i64 a1_2) := (blk_cell BK620.out 2).trans rfl
             have hcz22_3 : w5.cell? ⟨gb620, 3, none⟩ = some (.int .i64 a1_3) := (blk_cell BK620.out 3).trans rfl
             have hcz22_4 : w5.cell? ⟨gb620, 4, none⟩ = some (.int .i64 a1_4) := (blk_cell BK620.out 4).trans rfl
             have hcz22_5 : w5.cell? ⟨gb620, 5, none⟩ = some (.int .i64 a1_5) := (blk_cell BK620.out 5).trans rfl
             have hcz22_6 : w5.cell? ⟨gb620, 6, none⟩ = some (.int .i64 a1_6) := (blk_cell BK620.out 6).trans rfl
             have hcz22_7 : w5.cell? ⟨gb620, 7, none⟩ = some (.int .i64 a1_7) := (blk_cell BK620.out 7).trans rfl
             have hcz22_8 : w5.cell? ⟨gb620, 8, none⟩ = some (.int .i64 a1_8) := (blk_cell BK620.out 8).trans rfl
             have hcz22_9 : w5.cell? ⟨gb620, 9, none⟩ = some (.int .i64 a1_9) := (blk_cell BK620.out 9).trans rfl
             have hcz22_10 : w5.cell? ⟨gb620, 10, none⟩ = some (.int .i64 a1_10) := (blk_cell BK620.out 10).trans rfl
             have hcz22_11 : w5.cell? ⟨gb620, 11, none⟩ = some (.slice A1_11 l1_11.length c1_11) := (blk_cell BK620.out 11).trans rfl
             have hfz22_0 := blk_frozen BK620.out 0
             have hfz22_1 := blk_frozen BK620.out 1
             have hfz22_2 := blk_frozen BK620.out 2
             have hfz22_3 := blk_frozen BK620.out 3
             have hfz22_4 := blk_frozen BK620.out 4
             have hfz22_5 := blk_frozen BK620.out 5
             have hfz22_6 := blk_frozen BK620.out 6
             have hfz22_7 := blk_frozen BK620.out 7
             have hfz22_8 := blk_frozen BK620.out 8
             have hfz22_9 := blk_frozen BK620.out 9
             have hfz22_10 := blk_frozen BK620.out 10
             have hfz22_11 := blk_frozen BK620.out 11
             go_wp2
             repeat (go_quiet (fail); try go_wp2)
             go_meet
             case rel => exact ⟨_, (true), ez, H', ⟨by first | omega | exact Nat.le_refl _⟩, ⟨mBK BK619.out⟩, ⟨mBK BK620.out⟩, ⟨mBs HB.out⟩⟩
           ·rw [if_neg c15] at H
            have c15b0 : (a0_9 == a1_9) = false := beq_eq_false_iff_ne.mpr c15
            have c15b1 : (a0_9 != a1_9) = true := bne_iff_ne.mpr c15
            have H' := Aside0.mk H
            clear H
            have hnb23 := NB619_620.out
            have hnc23 := NB620_619.out
            have hcz24_0 : w5.cell? ⟨gb619, 0, none⟩ = some (.int .i64 a0_0) := (blk_cell BK619.out 0).trans rfl
            have hcz24_1 : w5.cell? ⟨gb619, 1, none⟩ = some (.int .i64 a0_1) := (blk_cell BK619.out 1).trans rfl
            have hcz24_2 : w5.cell? ⟨gb619, 2, none⟩ = some (.int .i64 a0_2) := (blk_cell BK619.out 2).trans rfl
            have hcz24_3 : w5.cell? ⟨gb619, 3, none⟩ = some (.int .i64 a0_3) := (blk_cell BK619.out 3).trans rfl
            have hcz24_4 : w5.cell? ⟨gb619, 4, none⟩ = some (.int .i64 a0_4) := (blk_cell BK619.out 4).trans rfl
            have hcz24_5 : w5.cell? ⟨gb619, 5, none⟩ = some (.int .i64 a0_5) := (blk_cell BK619.out 5).trans rfl
            have hcz24_6 : w5.cell? ⟨gb619, 6, none⟩ = some (.int .i64 a0_6) := (blk_cell BK619.out 6).trans rfl
            have hcz24_7 : w5.cell? ⟨gb619, 7, none⟩ = some (.int .i64 a0_7) := (blk_cell BK619.out 7).trans rfl
            have hcz24_8 : w5.cell? ⟨gb619, 8, none⟩ = some (.int .i64 a0_8) := (blk_cell BK619.out 8).trans rfl
            have hcz24_9 : w5.cell? ⟨gb619, 9, none⟩ = some (.int .i64 a0_9) := (blk_cell BK619.out 9).trans rfl
            have hcz24_10 : w5.cell? ⟨gb619, 10, none⟩ = some (.int .i64 a0_10) := (blk_cell BK619.out 10).trans rfl
            have hcz24_11 : w5.cell? ⟨gb619, 11, none⟩ = some (.slice A0_11 l0_11.length c0_11) := (blk_cell BK619.out 11).trans rfl
            have hfz24_0 := blk_frozen BK619.out 0
            have hfz24_1 := blk_frozen BK619.out 1
            have hfz24_2 := blk_frozen BK619.out 2
            have hfz24_3 := blk_frozen BK619.out 3
            have hfz24_4 := blk_frozen BK619.out 4
            have hfz24_5 := blk_frozen BK619.out 5
            have hfz24_6 := blk_frozen BK619.out 6
            have hfz24_7 := blk_frozen BK619.out 7
            have hfz24_8 := blk_frozen BK619.out 8
            have hfz24_9 := blk_frozen BK619.out 9
            have hfz24_10 := blk_frozen BK619.out 10
            have hfz24_11 := blk_frozen BK619.out 11
            have hcz25_0 : w5.cell? ⟨gb620, 0, none⟩ = some (.int .i64 a1_0) := (blk_cell BK620.out 0).trans rfl
            have hcz25_1 : w5.cell? ⟨gb620, 1, none⟩ = some (.int .i64 a1_1) := (blk_cell BK620.out 1).trans rfl
            have hcz25_2 : w5.cell? ⟨gb620, 2, none⟩ = some (.int .i64 a1_2) := (blk_cell BK620.out 2).trans rfl
            have hcz25_3 : w5.cell? ⟨gb620, 3, none⟩ = some (.int .i64 a1_3) := (blk_cell BK620.out 3).trans rfl
            have hcz25_4 : w5.cell? ⟨gb620, 4, none⟩ = some (.int .i64 a1_4) := (blk_cell BK620.out 4).trans rfl
            have hcz25_5 : w5.cell? ⟨gb620, 5, none⟩ = some (.int .i64 a1_5) := (blk_cell BK620.out 5).trans rfl
            have hcz25_6 : w5.cell? ⟨gb620, 6, none⟩ = some (.int .i64 a1_6) := (blk_cell BK620.out 6).trans rfl
            have hcz25_7 : w5.cell? ⟨gb620, 7, none⟩ = some (.int .i64 a1_7) := (blk_cell BK620.out 7).trans rfl
            have hcz25_8 : w5.cell? ⟨gb620, 8, none⟩ = some (.int .i64 a1_8) := (blk_cell BK620.out 8).trans rfl
            have hcz25_9 : w5.cell? ⟨gb620, 9, none⟩ = some (.int .i64 a1_9) := (blk_cell BK620.out 9).trans rfl
            have hcz25_10 : w5.cell? ⟨gb620, 10, none⟩ = some (.int .i64 a1_10) := (blk_cell BK620.out 10).trans rfl
            have hcz25_11 : w5.cell? ⟨gb620, 11, none⟩ = some (.slice A1_11 l1_11.length c1_11) := (blk_cell BK620.out 11).trans rfl
            have hfz25_0 := blk_frozen BK620.out 0
            have hfz25_1 := blk_frozen BK620.out 1
            have hfz25_2 := blk_frozen BK620.out 2
            have hfz25_3 := blk_frozen BK620.out 3
            have hfz25_4 := blk_frozen BK620.out 4
            have hfz25_5 := blk_frozen BK620.out 5
            have hfz25_6 := blk_frozen BK620.out 6
            have hfz25_7 := blk_frozen BK620.out 7
            have hfz25_8 := blk_frozen BK620.out 8
            have hfz25_9 := blk_frozen BK620.out 9
            have hfz25_10 := blk_frozen BK620.out 10
            have hfz25_11 := blk_frozen BK620.out 11
            go_wp2
            repeat (go_quiet (fail); try go_wp2)
            go_meet
            case rel => exact ⟨_, (true), ez, H', ⟨by first | omega | exact Nat.le_refl _⟩, ⟨mBK BK619.out⟩, ⟨mBK BK620.out⟩, ⟨mBs HB.out⟩⟩
          ·rw [if_neg c14] at H
           have c14b0 : (a0_8 == a1_8) = false := beq_eq_false_iff_ne.mpr c14
           have c14b1 : (a0_8 != a1_8) = true := bne_iff_ne.mpr c14
           have H' := Aside0.mk H
           clear H
           have hnb26 := NB619_620.out
           have hnc26 := NB620_619.out
           have hcz27_0 : w5.cell? ⟨gb619, 0, none⟩ = some (.int .i64 a0_0) := (blk_cell BK619.out 0).trans rfl
           have hcz27_1 : w5.cell? ⟨gb619, 1, none⟩ = some (.int .i64 a0_1) := (blk_cell BK619.out 1).trans rfl
           have hcz27_2 : w5.cell? ⟨gb619, 2, none⟩ = some (.int .i64 a0_2) := (blk_cell BK619.out 2).trans rfl
           have hcz27_3 : w5.cell? ⟨gb619, 3, none⟩ = some (.int .i64 a0_3) := (blk_cell BK619.out 3).trans rfl
           have hcz27_4 : w5.cell? ⟨gb619, 4, none⟩ = some (.int .i64 a0_4) := (blk_cell BK619.out 4).trans rfl
           have hcz27_5 : w5.cell? ⟨gb619, 5, none⟩ = some (.int .i64 a0_5) := (blk_cell BK619.out 5).trans rfl
           have hcz27_6 : w5.cell? ⟨gb619, 6, none⟩ = some (.int .i64 a0_6) := (blk_cell BK619.out 6).trans rfl
           have hcz27_7 : w5.cell? ⟨gb619, 7, none⟩ = some (.int .i64 a0_7) := (blk_cell BK619.out 7).trans rfl
           have hcz27_8 : w5.cell? ⟨gb619, 8, none⟩ = some (.int .i64 a0_8) := (blk_cell BK619.out 8).trans rfl
           have hcz27_9 : w5.cell? ⟨gb619, 9, none⟩ = some (.int .i64 a0_9) := (blk_cell BK619.out 9).trans rfl
           have hcz27_10 : w5.cell? ⟨gb619, 10, none⟩ = some (.int .i64 a0_10) := (blk_cell BK619.out 10).trans rfl
           have hcz27_11 : w5.cell? ⟨gb619, 11, none⟩ = some (.slice A0_11 l0_11.length c0_11) := (blk_cell BK619.out 11).trans rfl
           have hfz27_0 := blk_frozen BK619.out 0
           have hfz27_1 := blk_frozen BK619.out 1
           have hfz27_2 := blk_frozen BK619.out 2
           have hfz27_3 := blk_frozen BK619.out 3
           have hfz27_4 := blk_frozen BK619.out 4
           have hfz27_5 := blk_frozen BK619.out 5
           have hfz27_6 := blk_frozen BK619.out 6
           have hfz27_7 := blk_frozen BK619.out 7
           have hfz27_8 := blk_frozen BK619.out 8
           have hfz27_9 := blk_frozen BK619.out 9
           have hfz27_10 := blk_frozen BK619.out 10
           have hfz27_11 := blk_frozen BK619.out 11
           have hcz28_0 : w5.cell? ⟨gb620, 0, none⟩ = some (.int .i64 a1_0) := (blk_cell BK620.out 0).trans rfl
           have hcz28_1 : w5.cell? ⟨gb620, 1, none⟩ = some (.int .i64 a1_1) := (blk_cell BK620.out 1).trans rfl
           have hcz28_2 : w5.cell? ⟨gb620, 2, none⟩ = some (.int .i64 a1_2) := (blk_cell BK620.out 2).trans rfl
           have hcz28_3 : w5.cell? ⟨gb620, 3, none⟩ = some (.int .i64 a1_3) := (blk_cell BK620.out 3).trans rfl
           have hcz28_4 : w5.cell? ⟨gb620, 4, none⟩ = some (.int .i64 a1_4) := (blk_cell BK620.out 4).trans rfl
           have hcz28_5 : w5.cell? ⟨gb620, 5, none⟩ = some (.int .i64 a1_5) := (blk_cell BK620.out 5).trans rfl
           have hcz28_6 : w5.cell? ⟨gb620, 6, none⟩ = some (.int .i64 a1_6) := (blk_cell BK620.out 6).trans rfl
           have hcz28_7 : w5.cell? ⟨gb620, 7, none⟩ = some (.int .i64 a1_7) := (blk_cell BK620.out 7).trans rfl
           have hcz28_8 : w5.cell? ⟨gb620, 8, none⟩ = some (.int .i64 a1_8) := (blk_cell BK620.out 8).trans rfl
           have hcz28_9 : w5.cell? ⟨gb620, 9, none⟩ = some (.int .i64 a1_9) := (blk_cell BK620.out 9).trans rfl
           have hcz28_10 : w5.cell? ⟨gb620, 10, none⟩ = some (.int .i64 a1_10) := (blk_cell BK620.out 10).trans rfl
           have hcz28_11 : w5.cell? ⟨gb620, 11, none⟩ = some (.slice A1_11 l1_11.length c1_11) := (blk_cell BK620.out 11).trans rfl
           have hfz28_0 := blk_frozen BK620.out 0
           have hfz28_1 := blk_frozen BK620.out 1
           have hfz28_2 := blk_frozen BK620.out 2
           have hfz28_3 := blk_frozen BK620.out 3
           have hfz28_4 := blk_frozen BK620.out 4
           have hfz28_5 := blk_frozen BK620.out 5
           have hfz28_6 := blk_frozen BK620.out 6
           have hfz28_7 := blk_frozen BK620.out 7
           have hfz28_8 := blk_frozen BK620.out 8
           have hfz28_9 := blk_frozen BK620.out 9
           have hfz28_10 := blk_frozen BK620.out 10
           have hfz28_11 := blk_frozen BK620.out 11
           go_wp2
           repeat (go_quiet (fail); try go_wp2)
           go_meet
           case rel => exact ⟨_, (true), ez, H', ⟨by first | omega | exact Nat.le_refl _⟩, ⟨mBK BK619.out⟩, ⟨mBK BK620.out⟩, ⟨mBs HB.out⟩⟩
         ·rw [if_neg c13] at H
          have c13b0 : (a0_7 == a1_7) = false := beq_eq_false_iff_ne.mpr c13
          have c13b1 : (a0_7 != a1_7) = true := bne_iff_ne.mpr c13
          have H' := Aside0.mk H
          clear H
          have hnb29 := NB619_620.out
          have hnc29 := NB620_619.out
          have hcz30_0 : w5.cell? ⟨gb619, 0, none⟩ = some (.int .i64 a0_0) := (blk_cell BK619.out 0).trans rfl
          have hcz30_1 : w5.cell? ⟨gb619, 1, none⟩ = some (.int .i64 a0_1) := (blk_cell BK619.out 1).trans rfl
          have hcz30_2 : w5.cell? ⟨gb619, 2, none⟩ = some (.int .i64 a0_2) := (blk_cell BK619.out 2).trans rfl
          have hcz30_3 : w5.cell? ⟨gb619, 3, none⟩ = some (.int .i64 a0_3) := (blk_cell BK619.out 3).trans rfl
          have hcz30_4 : w5.cell? ⟨gb619, 4, none⟩ = some (.int .i64 a0_4) := (blk_cell BK619.out 4).trans rfl
          have hcz30_5 : w5.cell? ⟨gb619, 5, none⟩ = some (.int .i64 a0_5) := (blk_cell BK619.out 5).trans rfl
          have hcz30_6 : w5.cell? ⟨gb619, 6, none⟩ = some (.int .i64 a0_6) := (blk_cell BK619.out 6).trans rfl
          have hcz30_7 : w5.cell? ⟨gb619, 7, none⟩ = some (.int .i64 a0_7) := (blk_cell BK619.out 7).trans rfl
          have hcz30_8 : w5.cell? ⟨gb619, 8, none⟩ = some (.int .i64 a0_8) := (blk_cell BK619.out 8).trans rfl
          have hcz30_9 : w5.cell? ⟨gb619, 9, none⟩ = some (.int .i64 a0_9) := (blk_cell BK619.out 9).trans rfl
          have hcz30_10 : w5.cell? ⟨gb619, 10, none⟩ = some (.int .i64 a0_10) := (blk_cell BK619.out 10).trans rfl
          have hcz30_11 : w5.cell? ⟨gb619, 11, none⟩ = some (.slice A0_11 l0_11.length c0_11) := (blk_cell BK619.out 11).trans rfl
          have hfz30_0 := blk_frozen BK619.out 0
          have hfz30_1 := blk_frozen BK619.out 1
          have hfz30_2 := blk_frozen BK619.out 2
          have hfz30_3 := blk_frozen BK619.out 3
          have hfz30_4 := blk_frozen BK619.out 4
          have hfz30_5 := blk_frozen BK619.out 5
          have hfz30_6 := blk_frozen BK619.out 6
          have hfz30_7 := blk_frozen BK619.out 7
          have hfz30_8 := blk_frozen BK619.out 8
          have hfz30_9 := blk_frozen BK619.out 9
          have hfz30_10 := blk_frozen BK619.out 10
          have hfz30_11 := blk_frozen BK619.out 11
          have hcz31_0 : w5.cell? ⟨gb620, 0, none⟩ = some (.int .i64 a1_0) := (blk_cell BK620.out 0).trans rfl
          have hcz31_1 : w5.cell? ⟨gb620, 1, none⟩ = some (.int .i64 a1_1) := (blk_cell BK620.out 1).trans rfl
          have hcz31_2 : w5.cell? ⟨gb620, 2, none⟩ = some (.int .i64 a1_2) := (blk_cell BK620.out 2).trans rfl
          have hcz31_3 : w5.cell? ⟨gb620, 3, none⟩ = some (.int .i64 a1_3) := (blk_cell BK620.out 3).trans rfl
          have hcz31_4 : w5.cell? ⟨gb620, 4, none⟩ = some (.int .i64 a1_4) := (blk_cell BK620.out 4).trans rfl
          have hcz31_5 : w5.cell? ⟨gb620, 5, none⟩ = some (.int .i64 a1_5) := (blk_cell BK620.out 5).trans rfl
          have hcz31_6 : w5.cell? ⟨gb620, 6, none⟩ = some (.int .i64 a1_6) := (blk_cell BK620.out 6).trans rfl
          have hcz31_7 : w5.cell? ⟨gb620, 7, none⟩ = some (.int .i64 a1_7) := (blk_cell BK620.out 7).trans rfl
          have hcz31_8 : w5.cell? ⟨gb620, 8, none⟩ = some (.int .i64 a1_8) := (blk_cell BK620.out 8).trans rfl
          have hcz31_9 : w5.cell? ⟨gb620, 9, none⟩ = some (.int .i64 a1_9) := (blk_cell BK620.out 9).trans rfl
          have hcz31_10 : w5.cell? ⟨gb620, 10, none⟩ = some (.int .i64 a1_10) := (blk_cell BK620.out 10).trans rfl
          have hcz31_11 : w5.cell? ⟨gb620, 11, none⟩ = some (.slice A1_11 l1_11.length c1_11) := (blk_cell BK620.out 11).trans rfl
          have hfz31_0 := blk_frozen BK620.out 0
          have hfz31_1 := blk_frozen BK620.out 1
          have hfz31_2 := blk_frozen BK620.out 2
          have hfz31_3 := blk_frozen BK620.out 3
          have hfz31_4 := blk_frozen BK620.out 4
          have hfz31_5 := blk_frozen BK620.out 5
          have hfz31_6 := blk_frozen BK620.out 6
          have hfz31_7 := blk_frozen BK620.out 7
          have hfz31_8 := blk_frozen BK620.out 8
          have hfz31_9 := blk_frozen BK620.out 9
          have hfz31_10 := blk_frozen BK620.out 10
          have hfz31_11 := blk_frozen BK620.out 11
          go_wp2
          repeat (go_quiet (fail); try go_wp2)
          go_meet
          case rel => exact ⟨_, (true), ez, H', ⟨by first | omega | exact Nat.le_refl _⟩, ⟨mBK BK619.out⟩, ⟨mBK BK620.out⟩, ⟨mBs HB.out⟩⟩
        ·rw [if_neg c12] at H
         have c12b0 : (a0_6 == a1_6) = false := beq_eq_false_iff_ne.mpr c12
         have c12b1 : (a0_6 != a1_6) = true := bne_iff_ne.mpr c12
         have H' := Aside0.mk H
         clear H
         have hnb32 := NB619_620.out
         have hnc32 := NB620_619.out
         have hcz33_0 : w5.cell? ⟨gb619, 0, none⟩ = some (.int .i64 a0_0) := (blk_cell BK619.out 0).trans rfl
         have hcz33_1 : w5.cell? ⟨gb619, 1, none⟩ = some (.int .i64 a0_1) := (blk_cell BK619.out 1).trans rfl
         have hcz33_2 : w5.cell? ⟨gb619, 2, none⟩ = some (.int .i64 a0_2) := (blk_cell BK619.out 2).trans rfl
         have hcz33_3 : w5.cell? ⟨gb619, 3, none⟩ = some (.int .i64 a0_3) := (blk_cell BK619.out 3).trans rfl
         have hcz33_4 : w5.cell? ⟨gb619, 4, none⟩ = some (.int .i64 a0_4) := (blk_cell BK619.out 4).trans rfl
         have hcz33_5 : w5.cell? ⟨gb619, 5, none⟩ = some (.int .i64 a0_5) := (blk_cell BK619.out 5).trans rfl
         have hcz33_6 : w5.cell? ⟨gb619, 6, none⟩ = some (.int .i64 a0_6) := (blk_cell BK619.out 6).trans rfl
         have hcz33_7 : w5.cell? ⟨gb619, 7, none⟩ = some (.int .i64 a0_7) := (blk_cell BK619.out 7).trans rfl
         have hcz33_8 : w5.cell? ⟨gb619, 8, none⟩ = some (.int .i64 a0_8) := (blk_cell BK619.out 8).trans rfl
         have hcz33_9 : w5.cell? ⟨gb619, 9, none⟩ = some (.int .i64 a0_9) := (blk_cell BK619.out 9).trans rfl
         have hcz33_10 : w5.cell? ⟨gb619, 10, none⟩ = some (.int .i64 a0_10) := (blk_cell BK619.out 10).trans rfl
         have hcz33_11 : w5.cell? ⟨gb619, 11, none⟩ = some (.slice A0_11 l0_11.length c0_11) := (blk_cell BK619.out 11).trans rfl
         have hfz33_0 := blk_frozen BK619.out 0
         have hfz33_1 := blk_frozen BK619.out 1
         have hfz33_2 := blk_frozen BK619.out 2
         have hfz33_3 := blk_frozen BK619.out 3
         have hfz33_4 := blk_frozen BK619.out 4
         have hfz33_5 := blk_frozen BK619.out 5
         have hfz33_6 := blk_frozen BK619.out 6
         have hfz33_7 := blk_frozen BK619.out 7
         have hfz33_8 := blk_frozen BK619.out 8
         have hfz33_9 := blk_frozen BK619.out 9
         have hfz33_10 := blk_frozen BK619.out 10
         have hfz33_11 := blk_frozen BK619.out 11
         have hcz34_0 : w5.cell? ⟨gb620, 0, none⟩ = some (.int .i64 a1_0) := (blk_cell BK620.out 0).trans rfl
         have hcz34_1 : w5.cell? ⟨gb620, 1, none⟩ = some (.int .i64 a1_1) := (blk_cell BK620.out 1).trans rfl
         have hcz34_2 : w5.cell? ⟨gb620, 2, none⟩ = some (.int .i64 a1_2) := (blk_cell BK620.out 2).trans rfl
         have hcz34_3 : w5.cell? ⟨gb620, 3, none⟩ = some (.int .i64 a1_3) := (blk_cell BK620.out 3).trans rfl
         have hcz34_4 : w5.cell? ⟨gb620, 4, none⟩ = some (.int .i64 a1_4) := (blk_cell BK620.out 4).trans rfl
         have hcz34_5 : w5.cell? ⟨gb620, 5, none⟩ = some (.int .i64 a1_5) := (blk_cell BK620.out 5).trans rfl
         have hcz34_6 : w5.cell? ⟨gb620, 6, none⟩ = some (.int .i64 a1_6) := (blk_cell BK620.out 6).trans rfl
         have hcz34_7 : w5.cell? ⟨gb620, 7, none⟩ = some (.int .i64 a1_7) := (blk_cell BK620.out 7).trans rfl
         have hcz34_8 : w5.cell? ⟨gb620, 8, none⟩ = some (.int .i64 a1_8) := (blk_cell BK620.out 8).trans rfl
         have hcz34_9 : w5.cell? ⟨gb620, 9, none⟩ = some (.int .i64 a1_9) := (blk_cell BK620.out 9).trans rfl
         have hcz34_10 : w5.cell? ⟨gb620, 10, none⟩ = some (.int .i64 a1_10) := (blk_cell BK620.out 10).trans rfl
         have hcz34_11 : w5.cell? ⟨gb620, 11, none⟩ = some (.slice A1_11 l1_11.length c1_11) := (blk_cell BK620.out 11).trans rfl
         have hfz34_0 := blk_frozen BK620.out 0
         have hfz34_1 := blk_frozen BK620.out 1
         have hfz34_2 := blk_frozen BK620.out 2
         have hfz34_3 := blk_frozen BK620.out 3
         have hfz34_4 := blk_frozen BK620.out 4
         have hfz34_5 := blk_frozen BK620.out 5
         have hfz34_6 := blk_frozen BK620.out 6
         have hfz34_7 := blk_frozen BK620.out 7
         have hfz34_8 := blk_frozen BK620.out 8
         have hfz34_9 := blk_frozen BK620.out 9
         have hfz34_10 := blk_frozen BK620.out 10
         have hfz34_11 := blk_frozen BK620.out 11
         go_wp2
         repeat (go_quiet (fail); try go_wp2)
         go_meet
         case rel => exact ⟨_, (true), ez, H', ⟨by first | omega | exact Nat.le_refl _⟩, ⟨mBK BK619.out⟩, ⟨mBK BK620.out⟩, ⟨mBs HB.out⟩⟩
       ·rw [if_neg c11] at H
        have c11b0 : (a0_5 == a1_5) = false := beq_eq_false_iff_ne.mpr c11
        have c11b1 : (a0_5 != a1_5) = true := bne_iff_ne.mpr c11
        have H' := Aside0.mk H
        clear H
        have hnb35 := NB619_620.out
        have hnc35 := NB620_619.out
        have hcz36_0 : w5.cell? ⟨gb619, 0, none⟩ = some (.int .i64 a0_0) := (blk_cell BK619.out 0).trans rfl
        have hcz36_1 : w5.cell? ⟨gb619, 1, none⟩ = some (.int .i64 a0_1) := (blk_cell BK619.out 1).trans rfl
        have hcz36_2 : w5.cell? ⟨gb619, 2, none⟩ = some (.int .i64 a0_2) := (blk_cell BK619.out 2).trans rfl
        have hcz36_3 : w5.cell? ⟨gb619, 3, none⟩ = some (.int .i64 a0_3) := (blk_cell BK619.out 3).trans rfl
        have hcz36_4 : w5.cell? ⟨gb619, 4, none⟩ = some (.int .i64 a0_4) := (blk_cell BK619.out 4).trans rfl
        have hcz36_5 : w5.cell? ⟨gb619, 5, none⟩ = some (.int .i64 a0_5) := (blk_cell BK619.out 5).trans rfl
        have hcz36_6 : w5.cell? ⟨gb619, 6, none⟩ = some (.int .i64 a0_6) := (blk_cell BK619.out 6).trans rfl
        have hcz36_7 : w5.cell? ⟨gb619, 7, none⟩ = some (.int .i64 a0_7) := (blk_cell BK619.out 7).trans rfl
        have hcz36_8 : w5.cell? ⟨gb619, 8, none⟩ = some (.int .i64 a0_8) := (blk_cell BK619.out 8).trans rfl
        have hcz36_9 : w5.cell? ⟨gb619, 9, none⟩ = some (.int .i64 a0_9) := (blk_cell BK619.out 9).trans rfl
        have hcz36_10 : w5.cell? ⟨gb619, 10, none⟩ = some (.int .i64 a0_10) := (blk_cell BK619.out 10).trans rfl
        have hcz36_11 : w5.cell? ⟨gb619, 11, none⟩ = some (.slice A0_11 l0_11.length c0_11) := (blk_cell BK619.out 11).trans rfl
        have hfz36_0 := blk_frozen BK619.out 0
        have hfz36_1 := blk_frozen BK619.out 1
        have hfz36_2 := blk_frozen BK619.out 2
        have hfz36_3 := blk_frozen BK619.out 3
        have hfz36_4 := blk_frozen BK619.out 4
        have hfz36_5 := blk_frozen BK619.out 5
        have hfz36_6 := blk_frozen BK619.out 6
        have hfz36_7 := blk_frozen BK619.out 7
        have hfz36_8 := blk_frozen BK619.out 8
        have hfz36_9 := blk_frozen BK619.out 9
        have hfz36_10 := blk_frozen BK619.out 10
        have hfz36_11 := blk_frozen BK619.out 11
        have hcz37_0 : w5.cell? ⟨gb620, 0, none⟩ = some (.int .i64 a1_0) := (blk_cell BK620.out 0).trans rfl
        have hcz37_1 : w5.cell? ⟨gb620, 1, none⟩ = some (.int .i64 a1_1) := (blk_cell BK620.out 1).trans rfl
        have hcz37_2 : w5.cell? ⟨gb620, 2, none⟩ = some (.int .i64 a1_2) := (blk_cell BK620.out 2).trans rfl
        have hcz37_3 : w5.cell? ⟨gb620, 3, none⟩ = some (.int .i64 a1_3) := (blk_cell BK620.out 3).trans rfl
        have hcz37_4 : w5.cell? ⟨gb620, 4, none⟩ = some (.int .i64 a1_4) := (blk_cell BK620.out 4).trans rfl
        have hcz37_5 : w5.cell? ⟨gb620, 5, none⟩ = some (.int .i64 a1_5) := (blk_cell BK620.out 5).trans rfl
        have hcz37_6 : w5.cell? ⟨gb620, 6, none⟩ = some (.int .i64 a1_6) := (blk_cell BK620.out 6).trans rfl
        have hcz37_7 : w5.cell? ⟨gb620, 7, none⟩ = some (.int .i64 a1_7) := (blk_cell BK620.out 7).trans rfl
        have hcz37_8 : w5.cell? ⟨gb620, 8, none⟩ = some (.int .i64 a1_8) := (blk_cell BK620.out 8).trans rfl
        have hcz37_9 : w5.cell? ⟨gb620, 9, none⟩ = some (.int .i64 a1_9) := (blk_cell BK620.out 9).trans rfl
        have hcz37_10 : w5.cell? ⟨gb620, 10, none⟩ = some (.int .i64 a1_10) := (blk_cell BK620.out 10).trans rfl
        have hcz37_11 : w5.cell? ⟨gb620, 11, none⟩ = some (.slice A1_11 l1_11.length c1_11) := (blk_cell BK620.out 11).trans rfl
        have hfz37_0 := blk_frozen BK620.out 0
        have hfz37_1 := blk_frozen BK620.out 1
        have hfz37_2 := blk_frozen BK620.out 2
        have hfz37_3 := blk_frozen BK620.out 3
        have hfz37_4 := blk_frozen BK620.out 4
        have hfz37_5 := blk_frozen BK620.out 5
        have hfz37_6 := blk_frozen BK620.out 6
        have hfz37_7 := blk_frozen BK620.out 7
        have hfz37_8 := blk_frozen BK620.out 8
        have hfz37_9 := blk_frozen BK620.out 9
        have hfz37_10 := blk_frozen BK620.out 10
        have hfz37_11 := blk_frozen BK620.out 11
        go_wp2
        repeat (go_quiet (fail); try go_wp2)
        go_meet
        case rel => exact ⟨_, (true), ez, H', ⟨by first | omega | exact Nat.le_refl _⟩, ⟨mBK BK619.out⟩, ⟨mBK BK620.out⟩, ⟨mBs HB.out⟩⟩
      ·rw [if_neg c10] at H
       have c10b0 : (a0_4 == a1_4) = false := beq_eq_false_iff_ne.mpr c10
       have c10b1 : (a0_4 != a1_4) = true := bne_iff_ne.mpr c10
       have H' := Aside0.mk H
       clear H
       have hnb38 := NB619_620.out
       have hnc38 := NB620_619.out
       have hcz39_0 : w5.cell? ⟨gb619, 0, none⟩ = some (.int .i64 a0_0) := (blk_cell BK619.out 0).trans rfl
       have hcz39_1 : w5.cell? ⟨gb619, 1, none⟩ = some (.int .i64 a0_1) := (blk_cell BK619.out 1).trans rfl
       have hcz39_2 : w5.cell? ⟨gb619, 2, none⟩ = some (.int .i64 a0_2) := (blk_cell BK619.out 2).trans rfl
       have hcz39_3 : w5.cell? ⟨gb619, 3, none⟩ = some (.int .i64 a0_3) := (blk_cell BK619.out 3).trans rfl
       have hcz39_4 : w5.cell? ⟨gb619, 4, none⟩ = some (.int .i64 a0_4) := (blk_cell BK619.out 4).trans rfl
       have hcz39_5 : w5.cell? ⟨gb619, 5, none⟩ = some (.int .i64 a0_5) := (blk_cell BK619.out 5).trans rfl
       have hcz39_6 : w5.cell? ⟨gb619, 6, none⟩ = some (.int .i64 a0_6) := (blk_cell BK619.out 6).trans rfl
       have hcz39_7 : w5.cell? ⟨gb619, 7, none⟩ = some (.int .i64 a0_7) := (blk_cell BK619.out 7).trans rfl
       have hcz39_8 : w5.cell? ⟨gb619, 8, none⟩ = some (.int .i64 a0_8) := (blk_cell BK619.out 8).trans rfl
       have hcz39_9 : w5.cell? ⟨gb619, 9, none⟩ = some (.int .i64 a0_9) := (blk_cell BK619.out 9).trans rfl
       have hcz39_10 : w5.cell? ⟨gb619, 10, none⟩ = some (.int .i64 a0_10) := (blk_cell BK619.out 10).trans rfl
       have hcz39_11 : w5.cell? ⟨gb619, 11, none⟩ = some (.slice A0_11 l0_11.length c0_11) := (blk_cell BK619.out 11).trans rfl
       have hfz39_0 := blk_frozen BK619.out 0
       have hfz39_1 := blk_frozen BK619.out 1
       have hfz39_2 := blk_frozen BK619.out 2
       have hfz39_3 := blk_frozen BK619.out 3
       have hfz39_4 := blk_frozen BK619.out 4
       have hfz39_5 := blk_frozen BK619.out 5
       have hfz39_6 := blk_frozen BK619.out 6
       have hfz39_7 := blk_frozen BK619.out 7
       have hfz39_8 := blk_frozen BK619.out 8
       have hfz39_9 := blk_frozen BK619.out 9
       have hfz39_10 := blk_frozen BK619.out 10
       have hfz39_11 := blk_frozen BK619.out 11
       have hcz40_0 : w5.cell? ⟨gb620, 0, none⟩ = some (.int .i64 a1_0) := (blk_cell BK620.out 0).trans rfl
       have hcz40_1 : w5.cell? ⟨gb620, 1, none⟩ = some (.int .i64 a1_1) := (blk_cell BK620.out 1).trans rfl
       have hcz40_2 : w5.cell? ⟨gb620, 2, none⟩ = some (.int .i64 a1_2) := (blk_cell BK620.out 2).trans rfl
       have hcz40_3 : w5.cell? ⟨gb620, 3, none⟩ = some (.int .i64 a1_3) := (blk_cell BK620.out 3).trans rfl
       have hcz40_4 : w5.cell? ⟨gb620, 4, none⟩ = some (.int .i64 a1_4) := (blk_cell BK620.out 4).trans rfl
       have hcz40_5 : w5.cell? ⟨gb620, 5, none⟩ = some (.int .i64 a1_5) := (blk_cell BK620.out 5).trans rfl
       have hcz40_6 : w5.cell? ⟨gb620, 6, none⟩ = some (.int .i64 a1_6) := (blk_cell BK620.out 6).trans rfl
       have hcz40_7 : w5.cell? ⟨gb620, 7, none⟩ = some (.int .i64 a1_7) := (blk_cell BK620.out 7).trans rfl
       have hcz40_8 : w5.cell? ⟨gb620, 8, none⟩ = some (.int .i64 a1_8) := (blk_cell BK620.out 8).trans rfl
       have hcz40_9 : w5.cell? ⟨gb620, 9, none⟩ = some (.int .i64 a1_9) := (blk_cell BK620.out 9).trans rfl
       have hcz40_10 : w5.cell? ⟨gb620, 10, none⟩ = some (.int .i64 a1_10) := (blk_cell BK620.out 10).trans rfl
       have hcz40_11 : w5.cell? ⟨gb620, 11, none⟩ = some (.slice A1_11 l1_11.length c1_11) := (blk_cell BK620.out 11).trans rfl
       have hfz40_0 := blk_frozen BK620.out 0
       have hfz40_1 := blk_frozen BK620.out 1
       have hfz40_2 := blk_frozen BK620.out 2
       have hfz40_3 := blk_frozen BK620.out 3
       have hfz40_4 := blk_frozen BK620.out 4
       have hfz40_5 := blk_frozen BK620.out 5
       have hfz40_6 := blk_frozen BK620.out 6
       have hfz40_7 := blk_frozen BK620.out 7
       have hfz40_8 := blk_frozen BK620.out 8
       have hfz40_9 := blk_frozen BK620.out 9
       have hfz40_10 := blk_frozen BK620.out 10
       have hfz40_11 := blk_frozen BK620.out 11
       go_wp2
       repeat (go_quiet (fail); try go_wp2)
       go_meet
       case rel => exact ⟨_, (true), ez, H', ⟨by first | omega | exact Nat.le_refl _⟩, ⟨mBK BK619.out⟩, ⟨mBK BK620.out⟩, ⟨mBs HB.out⟩⟩
     ·rw [if_neg c9] at H
      have c9b0 : (a0_3 == a1_3) = false := beq_eq_false_iff_ne.mpr c9
      have c9b1 : (a0_3 != a1_3) = true := bne_iff_ne.mpr c9
      have H' := Aside0.mk H
      clear H
      have hnb41 := NB619_620.out
      have hnc41 := NB620_619.out
      have hcz42_0 : w5.cell? ⟨gb619, 0, none⟩ = some (.int .i64 a0_0) := (blk_cell BK619.out 0).trans rfl
      have hcz42_1 : w5.cell? ⟨gb619, 1, none⟩ = some (.int .i64 a0_1) := (blk_cell BK619.out 1).trans rfl
      have hcz42_2 : w5.cell? ⟨gb619, 2, none⟩ = some (.int .i64 a0_2) := (blk_cell BK619.out 2).trans rfl
      have hcz42_3 : w5.cell? ⟨gb619, 3, none⟩ = some (.int .i64 a0_3) := (blk_cell BK619.out 3).trans rfl
      have hcz42_4 : w5.cell? ⟨gb619, 4, none⟩ = some (.int .i64 a0_4) := (blk_cell BK619.out 4).trans rfl
      have hcz42_5 : w5.cell? ⟨gb619, 5, none⟩ = some (.int .i64 a0_5) := (blk_cell BK619.out 5).trans rfl
      have hcz42_6 : w5.cell? ⟨gb619, 6, none⟩ = some (.int .i64 a0_6) := (blk_cell BK619.out 6).trans rfl
      have hcz42_7 : w5.cell? ⟨gb619, 7, none⟩ = some (.int .i64 a0_7) := (blk_cell BK619.out 7).trans rfl
      have hcz42_8 : w5.cell? ⟨gb619, 8, none⟩ = some (.int .i64 a0_8) := (blk_cell BK619.out 8).trans rfl
      have hcz42_9 : w5.cell? ⟨gb619, 9, none⟩ = some (.int .i64 a0_9) := (blk_cell BK619.out 9).trans rfl
      have hcz42_10 : w5.cell? ⟨gb619, 10, none⟩ = some (.int .i64 a0_10) := (blk_cell BK619.out 10).trans rfl
      have hcz42_11 : w5.cell? ⟨gb619, 11, none⟩ = some (.slice A0_11 l0_11.length c0_11) := (blk_cell BK619.out 11).trans rfl
      have hfz42_0 := blk_frozen BK619.out 0
      have hfz42_1 := blk_frozen BK619.out 1
      have hfz42_2 := blk_frozen BK619.out 2
      have hfz42_3 := blk_frozen BK619.out 3
      have hfz42_4 := blk_frozen BK619.out 4
      have hfz42_5 := blk_frozen BK619.out 5
      have hfz42_6 := blk_frozen BK619.out 6
      have hfz42_7 := blk_frozen BK619.out 7
      have hfz42_8 := blk_frozen BK619.out 8
      have hfz42_9 := blk_frozen BK619.out 9
      have hfz42_10 := blk_frozen BK619.out 10
      have hfz42_11 := blk_frozen BK619.out 11
      have hcz43_0 : w5.cell? ⟨gb620, 0, none⟩ = some (.int .i64 a1_0) := (blk_cell BK620.out 0).trans rfl
      have hcz43_1 : w5.cell? ⟨gb620, 1, none⟩ = some (.int .i64 a1_1) := (blk_cell BK620.out 1).trans rfl
      have hcz43_2 : w5.cell? ⟨gb620, 2, none⟩ = some (.int .i64 a1_2) := (blk_cell BK620.out 2).trans rfl
      have hcz43_3 : w5.cell? ⟨gb620, 3, none⟩ = some (.int .i64 a1_3) := (blk_cell BK620.out 3).trans rfl
      have hcz43_4 : w5.cell? ⟨gb620, 4, none⟩ = some (.int .i64 a1_4) := (blk_cell BK620.out 4).trans rfl
      have hcz43_5 : w5.cell? ⟨gb620, 5, none⟩ = some (.int .i64 a1_5) := (blk_cell BK620.out 5).trans rfl
      have hcz43_6 : w5.cell? ⟨gb620, 6, none⟩ = some (.int .i64 a1_6) := (blk_cell BK620.out 6).trans rfl
      have hcz43_7 : w5.cell? ⟨gb620, 7, none⟩ = some (.int .i64 a1_7) := (blk_cell BK620.out 7).trans rfl
      have hcz43_8 : w5.cell? ⟨gb620, 8, none⟩ = some (.int .i64 a1_8) := (blk_cell BK620.out 8).trans rfl
      have hcz43_9 : w5.cell? ⟨gb620, 9, none⟩ = some (.int .i64 a1_9) := (blk_cell BK620.out 9).trans rfl
      have hcz43_10 : w5.cell? ⟨gb620, 10, none⟩ = some (.int .i64 a1_10) := (blk_cell BK620.out 10).trans rfl
      have hcz43_11 : w5.cell? ⟨gb620, 11, none⟩ = some (.slice A1_11 l1_11.length c1_11) := (blk_cell BK620.out 11).trans rfl
      have hfz43_0 := blk_frozen BK620.out 0
      have hfz43_1 := blk_frozen BK620.out 1
      have hfz43_2 := blk_frozen BK620.out 2
      have hfz43_3 := blk_frozen BK620.out 3
      have hfz43_4 := blk_frozen BK620.out 4
      have hfz43_5 := blk_frozen BK620.out 5
      have hfz43_6 := blk_frozen BK620.out 6
      have hfz43_7 := blk_frozen BK620.out 7
      have hfz43_8 := blk_frozen BK620.out 8
      have hfz43_9 := blk_frozen BK620.out 9
      have hfz43_10 := blk_frozen BK620.out 10
      have hfz43_11 := blk_frozen BK620.out 11
      go_wp2
      repeat (go_quiet (fail); try go_wp2)
      go_meet
      case rel => exact ⟨_, (true), ez, H', ⟨by first | omega | exact Nat.le_refl _⟩, ⟨mBK BK619.out⟩, ⟨mBK BK620.out⟩, ⟨mBs HB.out⟩⟩
    ·rw [if_neg c8] at H
     have c8b0 : (a0_2 == a1_2) = false := beq_eq_false_iff_ne.mpr c8
     have c8b1 : (a0_2 != a1_2) = true := bne_iff_ne.mpr c8
     have H' := Aside0.mk H
     clear H
     have hnb44 := NB619_620.out
     have hnc44 := NB620_619.out
     have hcz45_0 : w5.cell? ⟨gb619, 0, none⟩ = some (.int .i64 a0_0) := (blk_cell BK619.out 0).trans rfl
     have hcz45_1 : w5.cell? ⟨gb619, 1, none⟩ = some (.int .i64 a0_1) := (blk_cell BK619.out 1).trans rfl
     have hcz45_2 : w5.cell? ⟨gb619, 2, none⟩ = some (.int .i64 a0_2) := (blk_cell BK619.out 2).trans rfl
     have hcz45_3 : w5.cell? ⟨gb619, 3, none⟩ = some (.int .i64 a0_3) := (blk_cell BK619.out 3).trans rfl
     have hcz45_4 : w5.cell? ⟨gb619, 4, none⟩ = some (.int .i64 a0_4) := (blk_cell BK619.out 4).trans rfl
     have hcz45_5 : w5.cell? ⟨gb619, 5, none⟩ = some (.int .i64 a0_5) := (blk_cell BK619.out 5).trans rfl
     have hcz45_6 : w5.cell? ⟨gb619, 6, none⟩ = some (.int .i64 a0_6) := (blk_cell BK619.out 6).trans rfl
     have hcz45_7 : w5.cell? ⟨gb619, 7, none⟩ = some (.int .i64 a0_7) := (blk_cell BK619.out 7).trans rfl
     have hcz45_8 : w5.cell? ⟨gb619, 8, none⟩ = some (.int .i64 a0_8) := (blk_cell BK619.out 8).trans rfl
     have hcz45_9 : w5.cell? ⟨gb619, 9, none⟩ = some (.int .i64 a0_9) := (blk_cell BK619.out 9).trans rfl
     have hcz45_10 : w5.cell? ⟨gb619, 10, none⟩ = some (.int .i64 a0_10) := (blk_cell BK619.out 10).trans rfl
     have hcz45_11 : w5.cell? ⟨gb619, 11, none⟩ = some (.slice A0_11 l0_11.length c0_11) := (blk_cell BK619.out 11).trans rfl
     have hfz45_0 := blk_frozen BK619.out 0
     have hfz45_1 := blk_frozen BK619.out 1
     have hfz45_2 := blk_frozen BK619.out 2
     have hfz45_3 := blk_frozen BK619.out 3
     have hfz45_4 := blk_frozen BK619.out 4
     have hfz45_5 := blk_frozen BK619.out 5
     have hfz45_6 := blk_frozen BK619.out 6
     have hfz45_7 := blk_frozen BK619.out 7
     have hfz45_8 := blk_frozen BK619.out 8
     have hfz45_9 := blk_frozen BK619.out 9
     have hfz45_10 := blk_frozen BK619.out 10
     have hfz45_11 := blk_frozen BK619.out 11
     have hcz46_0 : w5.cell? ⟨gb620, 0, none⟩ = some (.int .i64 a1_0) := (blk_cell BK620.out 0).trans rfl
     have hcz46_1 : w5.cell? ⟨gb620, 1, none⟩ = some (.int .i64 a1_1) := (blk_cell BK620.out 1).trans rfl
     have hcz46_2 : w5.cell? ⟨gb620, 2, none⟩ = some (.int .i64 a1_2) := (blk_cell BK620.out 2).trans rfl
     have hcz46_3 : w5.cell? ⟨gb620, 3, none⟩ = some (.int .i64 a1_3) := (blk_cell BK620.out 3).trans rfl
     have hcz46_4 : w5.cell? ⟨gb620, 4, none⟩ = some (.int .i64 a1_4) := (blk_cell BK620.out 4).trans rfl
     have hcz46_5 : w5.cell? ⟨gb620, 5, none⟩ = some (.int .i64 a1_5) := (blk_cell BK620.out 5).trans rfl
     have hcz46_6 : w5.cell? ⟨gb620, 6, none⟩ = some (.int .i64 a1_6) := (blk_cell BK620.out 6).trans rfl
     have hcz46_7 : w5.cell? ⟨gb620, 7, none⟩ = some (.int .i64 a1_7) := (blk_cell BK620.out 7).trans rfl
     have hcz46_8 : w5.cell? ⟨gb620, 8, none⟩ = some (.int .i64 a1_8) := (blk_cell BK620.out 8).trans rfl
     have hcz46_9 : w5.cell? ⟨gb620, 9, none⟩ = some (.int .i64 a1_9) := (blk_cell BK620.out 9).trans rfl
     have hcz46_10 : w5.cell? ⟨gb620, 10, none⟩ = some (.int .i64 a1_10) := (blk_cell BK620.out 10).trans rfl
     have hcz46_11 : w5.cell? ⟨gb620, 11, none⟩ = some (.slice A1_11 l1_11.length c1_11) := (blk_cell BK620.out 11).trans rfl
     have hfz46_0 := blk_frozen BK620.out 0
     have hfz46_1 := blk_frozen BK620.out 1
     have hfz46_2 := blk_frozen BK620.out 2
     have hfz46_3 := blk_frozen BK620.out 3
     have hfz46_4 := blk_frozen BK620.out 4
     have hfz46_5 := blk_frozen BK620.out 5
     have hfz46_6 := blk_frozen BK620.out 6
     have hfz46_7 := blk_frozen BK620.out 7
     have hfz46_8 := blk_frozen BK620.out 8
     have hfz46_9 := blk_frozen BK620.out 9
     have hfz46_10 := blk_frozen BK620.out 10
     have hfz46_11 := blk_frozen BK620.out 11
     go_wp2
     repeat (go_quiet (fail); try go_wp2)
     go_meet
     case rel => exact ⟨_, (true), ez, H', ⟨by first | omega | exact Nat.le_refl _⟩, ⟨mBK BK619.out⟩, ⟨mBK BK620.out⟩, ⟨mBs HB.out⟩⟩
   ·rw [if_neg c7] at H
    have c7b0 : (a0_1 == a1_1) = false := beq_eq_false_iff_ne.mpr c7
    have c7b1 : (a0_1 != a1_1) = true := bne_iff_ne.mpr c7
    have H' := Aside0.mk H
    clear H
    have hnb47 := NB619_620.out
    have hnc47 := NB620_619.out
    have hcz48_0 : w5.cell? ⟨gb619, 0, none⟩ = some (.int .i64 a0_0) := (blk_cell BK619.out 0).trans rfl
    have hcz48_1 : w5.cell? ⟨gb619, 1, none⟩ = some (.int .i64 a0_1) := (blk_cell BK619.out 1).trans rfl
    have hcz48_2 : w5.cell? ⟨gb619, 2, none⟩ = some (.int .i64 a0_2) := (blk_cell BK619.out 2).trans rfl
    have hcz48_3 : w5.cell? ⟨gb619, 3, none⟩ = some (.int .i64 a0_3) := (blk_cell BK619.out 3).trans rfl
    have hcz48_4 : w5.cell? ⟨gb619, 4, none⟩ = some (.int .i64 a0_4) := (blk_cell BK619.out 4).trans rfl
    have hcz48_5 : w5.cell? ⟨gb619, 5, none⟩ = some (.int .i64 a0_5) := (blk_cell BK619.out 5).trans rfl
    have hcz48_6 : w5.cell? ⟨gb619, 6, none⟩ = some (.int .i64 a0_6) := (blk_cell BK619.out 6).trans rfl
    have hcz48_7 : w5.cell? ⟨gb619, 7, none⟩ = some (.int .i64 a0_7) := (blk_cell BK619.out 7).trans rfl
    have hcz48_8 : w5.cell? ⟨gb619, 8, none⟩ = some (.int .i64 a0_8) := (blk_cell BK619.out 8).trans rfl
    have hcz48_9 : w5.cell? ⟨gb619, 9, none⟩ = some (.int .i64 a0_9) := (blk_cell BK619.out 9).trans rfl
    have hcz48_10 : w5.cell? ⟨gb619, 10, none⟩ = some (.int .i64 a0_10) := (blk_cell BK619.out 10).trans rfl
    have hcz48_11 : w5.cell? ⟨gb619, 11, none⟩ = some (.slice A0_11 l0_11.length c0_11) := (blk_cell BK619.out 11).trans rfl
    have hfz48_0 := blk_frozen BK619.out 0
    have hfz48_1 := blk_frozen BK619.out 1
    have hfz48_2 := blk_frozen BK619.out 2
    have hfz48_3 := blk_frozen BK619.out 3
    have hfz48_4 := blk_frozen BK619.out 4
    have hfz48_5 := blk_frozen BK619.out 5
    have hfz48_6 := blk_frozen BK619.out 6
    have hfz48_7 := blk_frozen BK619.out 7
    have hfz48_8 := blk_frozen BK619.out 8
    have hfz48_9 := blk_frozen BK619.out 9
    have hfz48_10 := blk_frozen BK619.out 10
    have hfz48_11 := blk_frozen BK619.out 11
    have hcz49_0 : w5.cell? ⟨gb620, 0, none⟩ = some (.int .i64 a1_0) := (blk_cell BK620.out 0).trans rfl
    have hcz49_1 : w5.cell? ⟨gb620, 1, none⟩ = some (.int .i64 a1_1) := (blk_cell BK620.out 1).trans rfl
    have hcz49_2 : w5.cell? ⟨gb620, 2, none⟩ = some (.int .i64 a1_2) := (blk_cell BK620.out 2).trans rfl
    have hcz49_3 : w5.cell? ⟨gb620, 3, none⟩ = some (.int .i64 a1_3) := (blk_cell BK620.out 3).trans rfl
    have hcz49_4 : w5.cell? ⟨gb620, 4, none⟩ = some (.int .i64 a1_4) := (blk_cell BK620.out 4).trans rfl
    have hcz49_5 : w5.cell? ⟨gb620, 5, none⟩ = some (.int .i64 a1_5) := (blk_cell BK620.out 5).trans rfl
    have hcz49_6 : w5.cell? ⟨gb620, 6, none⟩ = some (.int .i64 a1_6) := (blk_cell BK620.out 6).trans rfl
    have hcz49_7 : w5.cell? ⟨gb620, 7, none⟩ = some (.int .i64 a1_7) := (blk_cell BK620.out 7).trans rfl
    have hcz49_8 : w5.cell? ⟨gb620, 8, none⟩ = some (.int .i64 a1_8) := (blk_cell BK620.out 8).trans rfl
    have hcz49_9 : w5.cell? ⟨gb620, 9, none⟩ = some (.int .i64 a1_9) := (blk_cell BK620.out 9).trans rfl
    have hcz49_10 : w5.cell? ⟨gb620, 10, none⟩ = some (.int .i64 a1_10) := (blk_cell BK620.out 10).trans rfl
    have hcz49_11 : w5.cell? ⟨gb620, 11, none⟩ = some (.slice A1_11 l1_11.length c1_11) := (blk_cell BK620.out 11).trans rfl
    have hfz49_0 := blk_frozen BK620.out 0
    have hfz49_1 := blk_frozen BK620.out 1
    have hfz49_2 := blk_frozen BK620.out 2
    have hfz49_3 := blk_frozen BK620.out 3
    have hfz49_4 := blk_frozen BK620.out 4
    have hfz49_5 := blk_frozen BK620.out 5
    have hfz49_6 := blk_frozen BK620.out 6
    have hfz49_7 := blk_frozen BK620.out 7
    have hfz49_8 := blk_frozen BK620.out 8
    have hfz49_9 := blk_frozen BK620.out 9
    have hfz49_10 := blk_frozen BK620.out 10
    have hfz49_11 := blk_frozen BK620.out 11
    go_wp2
    repeat (go_quiet (fail); try go_wp2)
    go_meet
    case rel => exact ⟨_, (true), ez, H', ⟨by first | omega | exact Nat.le_refl _⟩, ⟨mBK BK619.out⟩, ⟨mBK BK620.out⟩, ⟨mBs HB.out⟩⟩
  ·rw [if_neg c6] at H
   have c6b0 : (a0_0 == a1_0) = false := beq_eq_false_iff_ne.mpr c6
   have c6b1 : (a0_0 != a1_0) = true := bne_iff_ne.mpr c6
   (first | rw [c6b0] | (simp only [i64_w, i32_w]; rw [c6b0]) | skip)
   have H' := Aside0.mk H
   clear H
   have hnb50 := NB619_620.out
   have hnc50 := NB620_619.out
   have hcz51_0 : w5.cell? ⟨gb619, 0, none⟩ = some (.int .i64 a0_0) := (blk_cell BK619.out 0).trans rfl
   have hcz51_1 : w5.cell? ⟨gb619, 1, none⟩ = some (.int .i64 a0_1) := (blk_cell BK619.out 1).trans rfl
   have hcz51_2 : w5.cell? ⟨gb619, 2, none⟩ = some (.int .i64 a0_2) := (blk_cell BK619.out 2).trans rfl
   have hcz51_3 : w5.cell? ⟨gb619, 3, none⟩ = some (.int .i64 a0_3) := (blk_cell BK619.out 3).trans rfl
   have hcz51_4 : w5.cell? ⟨gb619, 4, none⟩ = some (.int .i64 a0_4) := (blk_cell BK619.out 4).trans rfl
   have hcz51_5 : w5.cell? ⟨gb619, 5, none⟩ = some (.int .i64 a0_5) := (blk_cell BK619.out 5).trans rfl
   have hcz51_6 : w5.cell? ⟨gb619, 6, none⟩ = some (.int .i64 a0_6) := (blk_cell BK619.out 6).trans rfl
   have hcz51_7 : w5.cell? ⟨gb619, 7, none⟩ = some (.int .i64 a0_7) := (blk_cell BK619.out 7).trans rfl
   have hcz51_8 : w5.cell? ⟨gb619, 8, none⟩ = some (.int .i64 a0_8) := (blk_cell BK619.out 8).trans rfl
   have hcz51_9 : w5.cell? ⟨gb619, 9, none⟩ = some (.int .i64 a0_9) := (blk_cell BK619.out 9).trans rfl
   have hcz51_10 : w5.cell? ⟨gb619, 10, none⟩ = some (.int .i64 a0_10) := (blk_cell BK619.out 10).trans rfl
   have hcz51_11 : w5.cell? ⟨gb619, 11, none⟩ = some (.slice A0_11 l0_11.length c0_11) := (blk_cell BK619.out 11).trans rfl
   have hfz51_0 := blk_frozen BK619.out 0
   have hfz51_1 := blk_frozen BK619.out 1
   have hfz51_2 := blk_frozen BK619.out 2
   have hfz51_3 := blk_frozen BK619.out 3
   have hfz51_4 := blk_frozen BK619.out 4
   have hfz51_5 := blk_frozen BK619.out 5
   have hfz51_6 := blk_frozen BK619.out 6
   have hfz51_7 := blk_frozen BK619.out 7
   have hfz51_8 := blk_frozen BK619.out 8
   have hfz51_9 := blk_frozen BK619.out 9
   have hfz51_10 := blk_frozen BK619.out 10
   have hfz51_11 := blk_frozen BK619.out 11
   have hcz52_0 : w5.cell? ⟨gb620, 0, none⟩ = some (.int .i64 a1_0) := (blk_cell BK620.out 0).trans rfl
   have hcz52_1 : w5.cell? ⟨gb620, 1, none⟩ = some (.int .i64 a1_1) := (blk_cell BK620.out 1).trans rfl
   have hcz52_2 : w5.cell? ⟨gb620, 2, none⟩ = some (.int .i64 a1_2) := (blk_cell BK620.out 2).trans rfl
   have hcz52_3 : w5.cell? ⟨gb620, 3, none⟩ = some (.int .i64 a1_3) := (blk_cell BK620.out 3).trans rfl
   have hcz52_4 : w5.cell? ⟨gb620, 4, none⟩ = some (.int .i64 a1_4) := (blk_cell BK620.out 4).trans rfl
   have hcz52_5 : w5.cell? ⟨gb620, 5, none⟩ = some (.int .i64 a1_5) := (blk_cell BK620.out 5).trans rfl
   have hcz52_6 : w5.cell? ⟨gb620, 6, none⟩ = some (.int .i64 a1_6) := (blk_cell BK620.out 6).trans rfl
   have hcz52_7 : w5.cell? ⟨gb620, 7, none⟩ = some (.int .i64 a1_7) := (blk_cell BK620.out 7).trans rfl
   have hcz52_8 : w5.cell? ⟨gb620, 8, none⟩ = some (.int .i64 a1_8) := (blk_cell BK620.out 8).trans rfl
   have hcz52_9 : w5.cell? ⟨gb620, 9, none⟩ = some (.int .i64 a1_9) := (blk_cell BK620.out 9).trans rfl
   have hcz52_10 : w5.cell? ⟨gb620, 10, none⟩ = some (.int .i64 a1_10) := (blk_cell BK620.out 10).trans rfl
   have hcz52_11 : w5.cell? ⟨gb620, 11, none⟩ = some (.slice A1_11 l1_11.length c1_11) := (blk_cell BK620.out 11).trans rfl
   have hfz52_0 := blk_frozen BK620.out 0
   have hfz52_1 := blk_frozen BK620.out 1
   have hfz52_2 := blk_frozen BK620.out 2
   have hfz52_3 := blk_frozen BK620.out 3
   have hfz52_4 := blk_frozen BK620.out 4
   have hfz52_5 := blk_frozen BK620.out 5
   have hfz52_6 := blk_frozen BK620.out 6
   have hfz52_7 := blk_frozen BK620.out 7
   have hfz52_8 := blk_frozen BK620.out 8
   have hfz52_9 := blk_frozen BK620.out 9
   have hfz52_10 := blk_frozen BK620.out 10
   have hfz52_11 := blk_frozen BK620.out 11
   go_wp2
   repeat (go_quiet (fail); try go_wp2)
   go_meet
   case rel => exact ⟨_, (true), ez, H', ⟨by first | omega | exact Nat.le_refl _⟩, ⟨mBK BK619.out⟩, ⟨mBK BK620.out⟩, ⟨mBs HB.out⟩⟩
 case rest =>
  clear HC3
  (try clear c1); (try clear c2); (try clear p2); (try clear c3); (try clear c4); (try clear c5); (try clear c6); (try clear c6b0); (try clear c6b1); (try clear c7); (try clear c7b0); (try clear c7b1); (try clear c8); (try clear c8b0); (try clear c8b1); (try clear c9); (try clear c9b0); (try clear c9b1); (try clear c10); (try clear c10b0); (try clear c10b1); (try clear c11); (try clear c11b0); (try clear c11b1); (try clear c12); (try clear c12b0); (try clear c12b1); (try clear c13); (try clear c13b0); (try clear c13b1); (try clear c14); (try clear c14b0); (try clear c14b1); (try clear c15); (try clear c15b0); (try clear c15b1); (try clear c23); (try clear c26); (try clear c29); (try clear c32); (try clear c35); (try clear c38); (try clear c41); (try clear c44); (try clear c47); (try clear c50); (try clear hcz24_0); (try clear hcz24_1); (try clear hcz24_10); (try clear hcz24_11); (try clear hcz24_2); (try clear hcz24_3); (try clear hcz24_4); (try clear hcz24_5); (try clear hcz24_6); (try clear hcz24_7); (try clear hcz24_8); (try clear hcz24_9); (try clear hcz25_0); (try clear hcz25_1); (try clear hcz25_10); (try clear hcz25_11); (try clear hcz25_2); (try clear hcz25_3); (try clear hcz25_4); (try clear hcz25_5); (try clear hcz25_6); (try clear hcz25_7); (try clear hcz25_8); (try clear hcz25_9); (try clear hcz27_0); (try clear hcz27_1); (try clear hcz27_10); (try clear hcz27_11); (try clear hcz27_2); (try clear hcz27_3); (try clear hcz27_4); (try clear hcz27_5); (try clear hcz27_6); (try clear hcz27_7); (try clear hcz27_8); (try clear hcz27_9); (try clear hcz28_0); (try clear hcz28_1); (try clear hcz28_10); (try clear hcz28_11); (try clear hcz28_2); (try clear hcz28_3); (try clear hcz28_4); (try clear hcz28_5); (try clear hcz28_6); (try clear hcz28_7); (try clear hcz28_8); (try clear hcz28_9); (try clear hcz30_0); (try clear hcz30_1); (try clear hcz30_10); (try clear hcz30_11); (try clear hcz30_2); (try clear hcz30_3); (try clear hcz30_4); (try clear hcz30_5); (try clear hcz30_6); (try clear hcz30_7); (try clear hcz30_8); (try clear hcz30_9); (try clear hcz31_0); (try clear hcz31_1); (try clear hcz31_10); (try clear hcz31_11); (try clear hcz31_2); (try clear hcz31_3); (try clear hcz31_4); (try clear hcz31_5); (try clear hcz31_6); (try clear hcz31_7); (try clear hcz31_8); (try clear hcz31_9); (try clear hcz33_0); (try clear hcz33_1); (try clear hcz33_10); (try clear hcz33_11); (try clear hcz33_2); (try clear hcz33_3); (try clear hcz33_4); (try clear hcz33_5); (try clear hcz33_6); (try clear hcz33_7); (try clear hcz33_8); (try clear hcz33_9); (try clear hcz34_0); (try clear hcz34_1); (try clear hcz34_10); (try clear hcz34_11); (try clear hcz34_2); (try clear hcz34_3); (try clear hcz34_4); (try clear hcz34_5); (try clear hcz34_6); (try clear hcz34_7); (try clear hcz34_8); (try clear hcz34_9); (try clear hcz36_0); (try clear hcz36_1); (try clear hcz36_10); (try clear hcz36_11); (try clear hcz36_2); (try clear hcz36_3); (try clear hcz36_4); (try clear hcz36_5); (try clear hcz36_6); (try clear hcz36_7); (try clear hcz36_8); (try clear hcz36_9); (try clear hcz37_0); (try clear hcz37_1); (try clear hcz37_10); (try clear hcz37_11); (try clear hcz37_2); (try clear hcz37_3); (try clear hcz37_4); (try clear hcz37_5); (try clear hcz37_6); (try clear hcz37_7); (try clear hcz37_8); (try clear hcz37_9); (try clear hcz39_0); (try clear hcz39_1); (try clear hcz39_10); (try clear hcz39_11); (try clear hcz39_2); (try clear hcz39_3); (try clear hcz39_4); (try clear hcz39_5); (try clear hcz39_6); (try clear hcz39_7); (try clear hcz39_8); (try clear hcz39_9); (try clear hcz40_0); (try clear hcz40_1); (try clear hcz40_10); (try clear hcz40_11); (try clear hcz40_2); (try clear hcz40_3); (try clear hcz40_4); (try clear hcz40_5); (try clear hcz40_6); (try clear hcz40_7); (try clear hcz40_8); (try clear hcz40_9); (try clear hcz42_0); (try clear hcz42_1); (try clear hcz42_10); (try clear hcz42_11); (try clear hcz42_2); (try clear hcz42_3); (try clear hcz42_4); (try clear hcz42_5); (try clear hcz42_6); (try clear hcz42_7); (try clear hcz42_8); (try clear hcz42_9); (try clear hcz43_0); (try clear hcz43_1); (try clear hcz43_10); (try clear hcz43_11); (try clear hcz43_2); (try clear hcz43_3); (try clear hcz43_4); (try clear hcz43_5); (try clear hcz43_6); (try clear hcz43_7); (try clear hcz43_8); (try clear hcz43_9); (try clear hcz45_0); (try clear hcz45_1); (try clear hcz45_10); (try clear hcz45_11); (try clear hcz45_2); (try clear hcz45_3); (try clear hcz45_4); (try clear hcz45_5); (try clear hcz45_6); (try clear hcz45_7); (try clear hcz45_8); (try clear hcz45_9); (try clear hcz46_0); (try clear hcz46_1); (try clear hcz46_10); (try clear hcz46_11); (try clear hcz46_2); (try clear hcz46_3); (try clear hcz46_4); (try clear hcz46_5); (try clear hcz46_6); (try clear hcz46_7); (try clear hcz46_8); (try clear hcz46_9); (try clear hcz48_0); (try clear hcz48_1); (try clear hcz48_10); (try clear hcz48_11); (try clear hcz48_2); (try clear hcz48_3); (try clear hcz48_4); (try clear hcz48_5); (try clear hcz48_6); (try clear hcz48_7); (try clear hcz48_8); (try clear hcz48_9); (try clear hcz49_0); (try clear hcz49_1); (try clear hcz49_10); (try clear hcz49_11); (try clear hcz49_2); (try clear hcz49_3); (try clear hcz49_4); (try clear hcz49_5); (try clear hcz49_6); (try clear hcz49_7); (try clear hcz49_8); (try clear hcz49_9); (try clear hcz51_0); (try clear hcz51_1); (try clear hcz51_10); (try clear hcz51_11); (try clear hcz51_2); (try clear hcz51_3); (try clear hcz51_4); (try clear hcz51_5); (try clear hcz51_6); (try clear hcz51_7); (try clear hcz51_8); (try clear hcz51_9); (try clear hcz52_0); (try clear hcz52_1); (try clear hcz52_10); (try clear hcz52_11); (try clear hcz52_2); (try clear hcz52_3); (try clear hcz52_4); (try clear hcz52_5); (try clear hcz52_6); (try clear hcz52_7); (try clear hcz52_8); (try clear hcz52_9); (try clear hfz22_10); (try clear hfz22_11); (try clear hfz22_9); (try clear hfz24_0); (try clear hfz24_1); (try clear hfz24_10); (try clear hfz24_11); (try clear hfz24_2); (try clear hfz24_3); (try clear hfz24_4); (try clear hfz24_5); (try clear hfz24_6); (try clear hfz24_7); (try clear hfz24_8); (try clear hfz24_9); (try clear hfz25_0); (try clear hfz25_1); (try clear hfz25_10); (try clear hfz25_11); (try clear hfz25_2); (try clear hfz25_3); (try clear hfz25_4); (try clear hfz25_5); (try clear hfz25_6); (try clear hfz25_7); (try clear hfz25_8); (try clear hfz25_9); (try clear hfz27_0); (try clear hfz27_1); (try clear hfz27_10); (try clear hfz27_11); (try clear hfz27_2); (try clear hfz27_3); (try clear hfz27_4); (try clear hfz27_5); (try clear hfz27_6); (try clear hfz27_7); (try clear hfz27_8); (try clear hfz27_9); (try clear hfz28_0); (try clear hfz28_1); (try clear hfz28_10); (try clear hfz28_11); (try clear hfz28_2); (try clear hfz28_3); (try clear hfz28_4); (try clear hfz28_5); (try clear hfz28_6); (try clear hfz28_7); (try clear hfz28_8); (try clear hfz28_9); (try clear hfz30_0); (try clear hfz30_1); (try clear hfz30_10); (try clear hfz30_11); (try clear hfz30_2); (try clear hfz30_3); (try clear hfz30_4); (try clear hfz30_5); (try clear hfz30_6); (try clear hfz30_7); (try clear hfz30_8); (try clear hfz30_9); (try clear hfz31_0); (try clear hfz31_1); (try clear hfz31_10); (try clear hfz31_11); (try clear hfz31_2); (try clear hfz31_3); (try clear hfz31_4); (try clear hfz31_5); (try clear hfz31_6); (try clear hfz31_7); (try clear hfz31_8); (try clear hfz31_9); (try clear hfz33_0); (try clear hfz33_1); (try clear hfz33_10); (try clear hfz33_11); (try clear hfz33_2); (try clear hfz33_3); (try clear hfz33_4); (try clear hfz33_5); (try clear hfz33_6); (try clear hfz33_7); (try clear hfz33_8); (try clear hfz33_9); (try clear hfz34_0); (try clear hfz34_1); (try clear hfz34_10); (try clear hfz34_11); (try clear hfz34_2); (try clear hfz34_3); (try clear hfz34_4); (try clear hfz34_5); (try clear hfz34_6); (try clear hfz34_7); (try clear hfz34_8); (try clear hfz34_9); (try clear hfz36_0); (try clear hfz36_1); (try clear hfz36_10); (try clear hfz36_11); (try clear hfz36_2); (try clear hfz36_3); (try clear hfz36_4); (try clear hfz36_5); (try clear hfz36_6); (try clear hfz36_7); (try clear hfz36_8); (try clear hfz36_9); (try clear hfz37_0); (try clear hfz37_1); (try clear hfz37_10); (try clear hfz37_11); (try clear hfz37_2); (try clear hfz37_3); (try clear hfz37_4); (try clear hfz37_5); (try clear hfz37_6); (try clear hfz37_7); (try clear hfz37_8); (try clear hfz37_9); (try clear hfz39_0); (try clear hfz39_1); (try clear hfz39_10); (try clear hfz39_11); (try clear hfz39_2); (try clear hfz39_3); (try clear hfz39_4); (try clear hfz39_5); (try clear hfz39_6); (try clear hfz39_7); (try clear hfz39_8); (try clear hfz39_9); (try clear hfz40_0); (try clear hfz40_1); (try clear hfz40_10); (try clear hfz40_11); (try clear hfz40_2); (try clear hfz40_3); (try clear hfz40_4); (try clear hfz40_5); (try clear hfz40_6); (try clear hfz40_7); (try clear hfz40_8); (try clear hfz40_9); (try clear hfz42_0); (try clear hfz42_1); (try clear hfz42_10); (try clear hfz42_11); (try clear hfz42_2); (try clear hfz42_3); (try clear hfz42_4); (try clear hfz42_5); (try clear hfz42_6); (try clear hfz42_7); (try clear hfz42_8); (try clear hfz42_9); (try clear hfz43_0); (try clear hfz43_1); (try clear hfz43_10); (try clear hfz43_11); (try clear hfz43_2); (try clear hfz43_3); (try clear hfz43_4); (try clear hfz43_5); (try clear hfz43_6); (try clear hfz43_7); (try clear hfz43_8); (try clear hfz43_9); (try clear hfz45_0); (try clear hfz45_1); (try clear hfz45_10); (try clear hfz45_11); (try clear hfz45_2); (try clear hfz45_3); (try clear hfz45_4); (try clear hfz45_5); (try clear hfz45_6); (try clear hfz45_7); (try clear hfz45_8); (try clear hfz45_9); (try clear hfz46_0); (try clear hfz46_1); (try clear hfz46_10); (try clear hfz46_11); (try clear hfz46_2); (try clear hfz46_3); (try clear hfz46_4); (try clear hfz46_5); (try clear hfz46_6); (try clear hfz46_7); (try clear hfz46_8); (try clear hfz46_9); (try clear hfz48_0); (try clear hfz48_1); (try clear hfz48_10); (try clear hfz48_11); (try clear hfz48_2); (try clear hfz48_3); (try clear hfz48_4); (try clear hfz48_5); (try clear hfz48_6); (try clear hfz48_7); (try clear hfz48_8); (try clear hfz48_9); (try clear hfz49_0); (try clear hfz49_1); (try clear hfz49_10); (try clear hfz49_11); (try clear hfz49_2); (try clear hfz49_3); (try clear hfz49_4); (try clear hfz49_5); (try clear hfz49_6); (try clear hfz49_7); (try clear hfz49_8); (try clear hfz49_9); (try clear hfz51_0); (try clear hfz51_1); (try clear hfz51_10); (try clear hfz51_11); (try clear hfz51_2); (try clear hfz51_3); (try clear hfz51_4); (try clear hfz51_5); (try clear hfz51_6); (try clear hfz51_7); (try clear hfz51_8); (try clear hfz51_9); (try clear hfz52_0); (try clear hfz52_1); (try clear hfz52_10); (try clear hfz52_11); (try clear hfz52_2); (try clear hfz52_3); (try clear hfz52_4); (try clear hfz52_5); (try clear hfz52_6); (try clear hfz52_7); (try clear hfz52_8); (try clear hfz52_9)
  obtain ⟨kq, x89_2, rfl, HA, HJ2, BK619, BK620, HB⟩ := hcut
  cases kq with
  | zero => exact absurd HA.out (by simp [prebendref13_SameJob.j0])
  | succ kj2 =>
   have H := HA.out
   clear HA
   simp only [prebendref13_SameJob.j0] at H
   by_cases c53 : x89_2 = true
   ·subst c53
    have H1 : (some false) = some r := by rw [if_pos rfl] at H; exact H
    clear H
    have H := H1
    clear H1
    obtain rfl := Option.some.inj H
    go_wp2
    repeat (go_quiet (fail); try go_wp2)
    go_ret
    exact ⟨by first | rfl | (simp [errW_none, errW_some] <;> rfl) | (simp [*, errW_none, errW_some] <;> rfl), by repeat (first | (with_reducible first | exact HB.out | apply below_alloc | apply pw_below_drewN | apply below_drew1 | refine below_set ?_ GE619.out | refine below_set ?_ GE620.out) | exact HB.out)⟩
   ·replace c53 := Bool.eq_false_iff.mpr c53
    subst c53
    have H1 : (prebendref13_SameJob.l0 kj2 0 a0_0 a0_1 a0_2 a0_3 a0_4 a0_5 a0_6 a0_7 a0_8 a0_9 a0_10 l0_11 a1_0 a1_1 a1_2 a1_3 a1_4 a1_5 a1_6 a1_7 a1_8 a1_9 a1_10 l1_11) = some r := by rw [if_neg (show ¬ (false = true) by decide)] at H; exact H
    clear H
    have H := H1
    clear H1
    have H' := Aside0.mk H
    clear H
    go_wp2
    repeat (go_quiet (fail); try go_wp2)
    go_loopg [5] kj2 (fun kq v5 w' => ∃ (x5_2 : Int), v5 = .int .i64 x5_2 ∧ Aside0 (prebendref13_SameJob.l0 kq x5_2 a0_0 a0_1 a0_2 a0_3 a0_4 a0_5 a0_6 a0_7 a0_8 a0_9 a0_10 l0_11 a1_0 a1_1 a1_2 a1_3 a1_4 a1_5 a1_6 a1_7 a1_8 a1_9 a1_10 l1_11 = some r) ∧ Aside0 (kq ≤ kj2) ∧ Aside0 (w'.heap[gb619]? = some (.cells #[.int .i64 a0_0, .int .i64 a0_1, .int .i64 a0_2, .int .i64 a0_3, .int .i64 a0_4, .int .i64 a0_5, .int .i64 a0_6, .int .i64 a0_7, .int .i64 a0_8, .int .i64 a0_9, .int .i64 a0_10, (.slice A0_11 l0_11.length c0_11)] 100 (0, 0))) ∧ Aside0 (w'.heap[gb620]? = some (.cells #[.int .i64 a1_0, .int .i64 a1_1, .int .i64 a1_2, .int .i64 a1_3, .int .i64 a1_4, .int .i64 a1_5, .int .i64 a1_6, .int .i64 a1_7, .int .i64 a1_8, .int .i64 a1_9, .int .i64 a1_10, (.slice A1_11 l1_11.length c1_11)] 100 (0, 0))) ∧ Aside0 (Below w.heap.size w w'))
    case atStart => exact ⟨(0), ez, H', ⟨Nat.le_refl _⟩, ⟨mBK BK619.out⟩, ⟨mBK BK620.out⟩, ⟨mBs HB.out⟩⟩
    case round =>
     clear H'
     (try clear c1); (try clear c2); (try clear p2); (try clear c3); (try clear c4); (try clear c5); (try clear c6); (try clear c6b0); (try clear c6b1); (try clear c7); (try clear c7b0); (try clear c7b1); (try clear c8); (try clear c8b0); (try clear c8b1); (try clear c9); (try clear c9b0); (try clear c9b1); (try clear c10); (try clear c10b0); (try clear c10b1); (try clear c11); (try clear c11b0); (try clear c11b1); (try clear c12); (try clear c12b0); (try clear c12b1); (try clear c13); (try clear c13b0); (try clear c13b1); (try clear c14); (try clear c14b0); (try clear c14b1); (try clear c15); (try clear c15b0); (try clear c15b1); (try clear c23); (try clear c26); (try clear c29); (try clear c32); (try clear c35); (try clear c38); (try clear c41); (try clear c44); (try clear c47); (try clear c50); (try clear c53); (try clear hcz24_0); (try clear hcz24_1); (try clear hcz24_10); (try clear hcz24_11); (try clear hcz24_2); (try clear hcz24_3); (try clear hcz24_4); (try clear hcz24_5); (try clear hcz24_6); (try clear hcz24_7); (try clear hcz24_8); (try clear hcz24_9); (try clear hcz25_0); (try clear hcz25_1); (try clear hcz25_10); (try clear hcz25_11); (try clear hcz25_2); (try clear hcz25_3); (try clear hcz25_4); (try clear hcz25_5); (try clear hcz25_6); (try clear hcz25_7); (try clear hcz25_8); (try clear hcz25_9); (try clear hcz27_0); (try clear hcz27_1); (try clear hcz27_10); (try clear hcz27_11); (try clear hcz27_2); (try clear hcz27_3); (try clear hcz27_4); (try clear hcz27_5); (try clear hcz27_6); (try clear hcz27_7); (try clear hcz27_8); (try clear hcz27_9); (try clear hcz28_0); (try clear hcz28_1); (try clear hcz28_10); (try clear hcz28_11); (try clear hcz28_2); (try clear hcz28_3); (try clear hcz28_4); (try clear hcz28_5); (try clear hcz28_6); (try clear hcz28_7); (try clear hcz28_8); (try clear hcz28_9); (try clear hcz30_0); (try clear hcz30_1); (try clear hcz30_10); (try clear hcz30_11); (try clear hcz30_2); (try clear hcz30_3); (try clear hcz30_4); (try clear hcz30_5); (try clear hcz30_6); (try clear hcz30_7); (try clear hcz30_8); (try clear hcz30_9); (try clear hcz31_0); (try clear hcz31_1); (try clear hcz31_10); (try clear hcz31_11); (try clear hcz31_2); (try clear hcz31_3); (try clear hcz31_4); (try clear hcz31_5); (try clear hcz31_6); (try clear hcz31_7); (try clear hcz31_8); (try clear hcz31_9); (try clear hcz33_0); (try clear hcz33_1); (try clear hcz33_10); (try clear hcz33_11); (try clear hcz33_2); (try clear hcz33_3); (try clear hcz33_4); (try clear hcz33_5); (try clear hcz33_6); (try clear hcz33_7); (try clear hcz33_8); (try clear hcz33_9); (try clear hcz34_0); (try clear hcz34_1); (try clear hcz34_10); (try clear hcz34_11); (try clear hcz34_2); (try clear hcz34_3); (try clear hcz34_4); (try clear hcz34_5); (try clear hcz34_6); (try clear hcz34_7); (try clear hcz34_8); (try clear hcz34_9); (try clear hcz36_0); (try clear hcz36_1); (try clear hcz36_10); (try clear hcz36_11); (try clear hcz36_2); (try clear hcz36_3); (try clear hcz36_4); (try clear hcz36_5); (try clear hcz36_6); (try clear hcz36_7); (try clear hcz36_8); (try clear hcz36_9); (try clear hcz37_0); (try clear hcz37_1); (try clear hcz37_10); (try clear hcz37_11); (try clear hcz37_2); (try clear hcz37_3); (try clear hcz37_4); (try clear hcz37_5); (try clear hcz37_6); (try clear hcz37_7); (try clear hcz37_8); (try clear hcz37_9); (try clear hcz39_0); (try clear hcz39_1); (try clear hcz39_10); (try clear hcz39_11); (try clear hcz39_2); (try clear hcz39_3); (try clear hcz39_4); (try clear hcz39_5); (try clear hcz39_6); (try clear hcz39_7); (try clear hcz39_8); (try clear hcz39_9); (try clear hcz40_0); (try clear hcz40_1); (try clear hcz40_10); (try clear hcz40_11); (try clear hcz40_2); (try clear hcz40_3); (try clear hcz40_4); (try clear hcz40_5); (try clear hcz40_6); (try clear hcz40_7); (try clear hcz40_8); (try clear hcz40_9); (try clear hcz42_0); (try clear hcz42_1); (try clear hcz42_10); (try clear hcz42_11); (try clear hcz42_2); (try clear hcz42_3); (try clear hcz42_4); (try clear hcz42_5); (try clear hcz42_6); (try clear hcz42_7); (try clear hcz42_8); (try clear hcz42_9); (try clear hcz43_0); (try clear hcz43_1); (try clear hcz43_10); (try clear hcz43_11); (try clear hcz43_2); (try clear hcz43_3); (try clear hcz43_4); (try clear hcz43_5); (try clear hcz43_6); (try clear hcz43_7); (try clear hcz43_8); (try clear hcz43_9); (try clear hcz45_0); (try clear hcz45_1); (try clear hcz45_10); (try clear hcz45_11); (try clear hcz45_2); (try clear hcz45_3); (try clear hcz45_4); (try clear hcz45_5); (try clear hcz45_6); (try clear hcz45_7); (try clear hcz45_8); (try clear hcz45_9); (try clear hcz46_0); (try clear hcz46_1); (try clear hcz46_10); (try clear hcz46_11); (try clear hcz46_2); (try clear hcz46_3); (try clear hcz46_4); (try clear hcz46_5); (try clear hcz46_6); (try clear hcz46_7); (try clear hcz46_8); (try clear hcz46_9); (try clear hcz48_0); (try clear hcz48_1); (try clear hcz48_10); (try clear hcz48_11); (try clear hcz48_2); (try clear hcz48_3); (try clear hcz48_4); (try clear hcz48_5); (try clear hcz48_6); (try clear hcz48_7); (try clear hcz48_8); (try clear hcz48_9); (try clear hcz49_0); (try clear hcz49_1); (try clear hcz49_10); (try clear hcz49_11); (try clear hcz49_2); (try clear hcz49_3); (try clear hcz49_4); (try clear hcz49_5); (try clear hcz49_6); (try clear hcz49_7); (try clear hcz49_8); (try clear hcz49_9); (try clear hcz51_0); (try clear hcz51_1); (try clear hcz51_10); (try clear hcz51_11); (try clear hcz51_2); (try clear hcz51_3); (try clear hcz51_4); (try clear hcz51_5); (try clear hcz51_6); (try clear hcz51_7); (try clear hcz51_8); (try clear hcz51_9); (try clear hcz52_0); (try clear hcz52_1); (try clear hcz52_10); (try clear hcz52_11); (try clear hcz52_2); (try clear hcz52_3); (try clear hcz52_4); (try clear hcz52_5); (try clear hcz52_6); (try clear hcz52_7); (try clear hcz52_8); (try clear hcz52_9); (try clear hfz22_10); (try clear hfz22_11); (try clear hfz22_9); (try clear hfz24_0); (try clear hfz24_1); (try clear hfz24_10); (try clear hfz24_11); (try clear hfz24_2); (try clear hfz24_3); (try clear hfz24_4); (try clear hfz24_5); (try clear hfz24_6); (try clear hfz24_7); (try clear hfz24_8); (try clear hfz24_9); (try clear hfz25_0); (try clear hfz25_1); (try clear hfz25_10); (try clear hfz25_11); (try clear hfz25_2); (try clear hfz25_3); (try clear hfz25_4); (try clear hfz25_5); (try clear hfz25_6); (try clear hfz25_7); (try clear hfz25_8); (try clear hfz25_9); (try clear hfz27_0); (try clear hfz27_1); (try clear hfz27_10); (try clear hfz27_11); (try clear hfz27_2); (try clear hfz27_3); (try clear hfz27_4); (try clear hfz27_5); (try clear hfz27_6); (try clear hfz27_7); (try clear hfz27_8); (try clear hfz27_9); (try clear hfz28_0); (try clear hfz28_1); (try clear hfz28_10); (try clear hfz28_11); (try clear hfz28_2); (try clear hfz28_3); (try clear hfz28_4); (try clear hfz28_5); (try clear hfz28_6); (try clear hfz28_7); (try clear hfz28_8); (try clear hfz28_9); (try clear hfz30_0); (try clear hfz30_1); (try clear hfz30_10); (try clear hfz30_11); (try clear hfz30_2); (try clear hfz30_3); (try clear hfz30_4); (try clear hfz30_5); (try clear hfz30_6); (try clear hfz30_7); (try clear hfz30_8); (try clear hfz30_9); (try clear hfz31_0); (try clear hfz31_1); (try clear hfz31_10); (try clear hfz31_11); (try clear hfz31_2); (try clear hfz31_3); (try clear hfz31_4); (try clear hfz31_5); (try clear hfz31_6); (try clear hfz31_7); (try clear hfz31_8); (try clear hfz31_9); (try clear hfz33_0); (try clear hfz33_1); (try clear hfz33_10); (try clear hfz33_11); (try clear hfz33_2); (try clear hfz33_3); (try clear hfz33_4); (try clear hfz33_5); (try clear hfz33_6); (try clear hfz33_7); (try clear hfz33_8); (try clear hfz33_9); (try clear hfz34_0); (try clear hfz34_1); (try clear hfz34_10); (try clear hfz34_11); (try clear hfz34_2); (try clear hfz34_3); (try clear hfz34_4); (try clear hfz34_5); (try clear hfz34_6); (try clear hfz34_7); (try clear hfz34_8); (try clear hfz34_9); (try clear hfz36_0); (try clear hfz36_1); (try clear hfz36_10); (try clear hfz36_11); (try clear hfz36_2); (try clear hfz36_3); (try clear hfz36_4); (try clear hfz36_5); (try clear hfz36_6); (try clear hfz36_7); (try clear hfz36_8); (try clear hfz36_9); (try clear hfz37_0); (try clear hfz37_1); (try clear hfz37_10); (try clear hfz37_11); (try clear hfz37_2); (try clear hfz37_3); (try clear hfz37_4); (try clear hfz37_5); (try clear hfz37_6); (try clear hfz37_7); (try clear hfz37_8); (try clear hfz37_9); (try clear hfz39_0); (try clear hfz39_1); (try clear hfz39_10); (try clear hfz39_11); (try clear hfz39_2); (try clear hfz39_3); (try clear hfz39_4); (try clear hfz39_5); (try clear hfz39_6); (try clear hfz39_7); (try clear hfz39_8); (try clear hfz39_9); (try clear hfz40_0); (try clear hfz40_1); (try clear hfz40_10); (try clear hfz40_11); (try clear hfz40_2); (try clear hfz40_3); (try clear hfz40_4); (try clear hfz40_5); (try clear hfz40_6); (try clear hfz40_7); (try clear hfz40_8); (try clear hfz40_9); (try clear hfz42_0); (try clear hfz42_1); (try clear hfz42_10); (try clear hfz42_11); (try clear hfz42_2); (try clear hfz42_3); (try clear hfz42_4); (try clear hfz42_5); (try clear hfz42_6); (try clear hfz42_7); (try clear hfz42_8); (try clear hfz42_9); (try clear hfz43_0); (try clear hfz43_1); (try clear hfz43_10); (try clear hfz43_11); (try clear hfz43_2); (try clear hfz43_3); (try clear hfz43_4); (try clear hfz43_5); (try clear hfz43_6); (try clear hfz43_7); (try clear hfz43_8); (try clear hfz43_9); (try clear hfz45_0); (try clear hfz45_1); (try clear hfz45_10); (try clear hfz45_11); (try clear hfz45_2); (try clear hfz45_3); (try clear hfz45_4); (try clear hfz45_5); (try clear hfz45_6); (try clear hfz45_7); (try clear hfz45_8); (try clear hfz45_9); (try clear hfz46_0); (try clear hfz46_1); (try clear hfz46_10); (try clear hfz46_11); (try clear hfz46_2); (try clear hfz46_3); (try clear hfz46_4); (try clear hfz46_5); (try clear hfz46_6); (try clear hfz46_7); (try clear hfz46_8); (try clear hfz46_9); (try clear hfz48_0); (try clear hfz48_1); (try clear hfz48_10); (try clear hfz48_11); (try clear hfz48_2); (try clear hfz48_3); (try clear hfz48_4); (try clear hfz48_5); (try clear hfz48_6); (try clear hfz48_7); (try clear hfz48_8); (try clear hfz48_9); (try clear hfz49_0); (try clear hfz49_1); (try clear hfz49_10); (try clear hfz49_11); (try clear hfz49_2); (try clear hfz49_3); (try clear hfz49_4); (try clear hfz49_5); (try clear hfz49_6); (try clear hfz49_7); (try clear hfz49_8); (try clear hfz49_9); (try clear hfz51_0); (try clear hfz51_1); (try clear hfz51_10); (try clear hfz51_11); (try clear hfz51_2); (try clear hfz51_3); (try clear hfz51_4); (try clear hfz51_5); (try clear hfz51_6); (try clear hfz51_7); (try clear hfz51_8); (try clear hfz51_9); (try clear hfz52_0); (try clear hfz52_1); (try clear hfz52_10); (try clear hfz52_11); (try clear hfz52_2); (try clear hfz52_3); (try clear hfz52_4); (try clear hfz52_5); (try clear hfz52_6); (try clear hfz52_7); (try clear hfz52_8); (try clear hfz52_9); (try clear p2)
     obtain ⟨x5_2, rfl, HA, HK2, BK619, BK620, HB⟩ := hrel
     cases gk with
     | zero => exact absurd HA.out (by simp [prebendref13_SameJob.l0])
     | succ k2 =>
      have H := HA.out
      clear HA
      simp only [prebendref13_SameJob.l0] at H
      by_cases c54 : x5_2 < (l0_11.length : Int)
      ·rw [if_pos c54] at H
       have c54b0 : decide (x5_2 < (l0_11.length : Int)) = true := decide_eq_true c54
       clear c54
       by_cases c55 : 0 ≤ x5_2
       ·rw [if_pos c55] at H
        have c55b0 : decide (0 ≤ x5_2) = true := decide_eq_true c55
        clear c55
        by_cases c56 : x5_2 < (l1_11.length : Int)
        ·rw [if_pos c56] at H
         have c56b0 : decide (x5_2 < (l1_11.length : Int)) = true := decide_eq_true c56
         clear c56
         by_cases c57 : (!(((rd_T102 l0_11 x5_2).f0) == ((rd_T102 l1_11 x5_2).f0)) || (!(((rd_T102 l0_11 x5_2).f1) == ((rd_T102 l1_11 x5_2).f1)))) = true
         ·rw [if_pos c57] at H
          have c57b0 : (!(((rd_T102 l0_11 x5_2).f0) == ((rd_T102 l1_11 x5_2).f0)) || (!(((rd_T102 l0_11 x5_2).f1) == ((rd_T102 l1_11 x5_2).f1)))) = true := c57
          clear c57
          obtain rfl := Option.some.inj H
          have hnb58 := NB619_620.out
          have hnc58 := NB620_619.out
          have hcz59_0 : wr.cell? ⟨gb619, 0, none⟩ = some (.int .i64 a0_0) := (blk_cell BK619.out 0).trans rfl
          have hcz59_1 : wr.cell? ⟨gb619, 1, none⟩ = some (.int .i64 a0_1) := (blk_cell BK619.out 1).trans rfl
          have hcz59_2 : wr.cell? ⟨gb619, 2, none⟩ = some (.int .i64 a0_2) := (blk_cell BK619.out 2).trans rfl
          have hcz59_3 : wr.cell? ⟨gb619, 3, none⟩ = some (.int .i64 a0_3) := (blk_cell BK619.out 3).trans rfl
          have hcz59_4 : wr.cell? ⟨gb619, 4, none⟩ = some (.int .i64 a0_4) := (blk_cell BK619.out 4).trans rfl
          have hcz59_5 : wr.cell? ⟨gb619, 5, none⟩ = some (.int .i64 a0_5) := (blk_cell BK619.out 5).trans rfl
          have hcz59_6 : wr.cell? ⟨gb619, 6, none⟩ = some (.int .i64 a0_6) := (blk_cell BK619.out 6).trans rfl
          have hcz59_7 : wr.cell? ⟨gb619, 7, none⟩ = some (.int .i64 a0_7) := (blk_cell BK619.out 7).trans rfl
          have hcz59_8 : wr.cell? ⟨gb619, 8, none⟩ = some (.int .i64 a0_8) := (blk_cell BK619.out 8).trans rfl
          have hcz59_9 : wr.cell? ⟨gb619, 9, none⟩ = some (.int .i64 a0_9) := (blk_cell BK619.out 9).trans rfl
          have hcz59_10 : wr.cell? ⟨gb619, 10, none⟩ = some (.int .i64 a0_10) := (blk_cell BK619.out 10).trans rfl
          have hcz59_11 : wr.cell? ⟨gb619, 11, none⟩ = some (.slice A0_11 l0_11.length c0_11) := (blk_cell BK619.out 11).trans rfl
          have hfz59_0 := blk_frozen BK619.out 0
          have hfz59_1 := blk_frozen BK619.out 1
          have hfz59_2 := blk_frozen BK619.out 2
          have hfz59_3 := blk_frozen BK619.out 3
          have hfz59_4 := blk_frozen BK619.out 4
          have hfz59_5 := blk_frozen BK619.out 5
          have hfz59_6 := blk_frozen BK619.out 6
          have hfz59_7 := blk_frozen BK619.out 7
          have hfz59_8 := blk_frozen BK619.out 8
          have hfz59_9 := blk_frozen BK619.out 9
          have hfz59_10 := blk_frozen BK619.out 10
          have hfz59_11 := blk_frozen BK619.out 11
          have p621 : 0 ≤ (x5_2 : Int) := oda
          have q621 : x5_2 < (l0_11.length : Int) := oda
          obtain ⟨ad621, e621, hx621_0, hx621_1⟩ := at_T102 HR0_11.out x5_2 p621 q621
          cases e621
          replace hx621_0 := (HB.out.cell (World.block_lt_of_cell? w _ hx621_0)).trans hx621_0
          replace hx621_1 := (HB.out.cell (World.block_lt_of_cell? w _ hx621_1)).trans hx621_1
          replace p621 := eq_true p621
          replace q621 := eq_true q621
          have hcz60_0 : wr.cell? ⟨gb620, 0, none⟩ = some (.int .i64 a1_0) := (blk_cell BK620.out 0).trans rfl
          have hcz60_1 : wr.cell? ⟨gb620, 1, none⟩ = some (.int .i64 a1_1) := (blk_cell BK620.out 1).trans rfl
          have hcz60_2 : wr.cell? ⟨gb620, 2, none⟩ = some (.int .i64 a1_2) := (blk_cell BK620.out 2).trans rfl
          have hcz60_3 : wr.cell? ⟨gb620, 3, none⟩ = some (.int .i64 a1_3) := (blk_cell BK620.out 3).trans rfl
          have hcz60_4 : wr.cell? ⟨gb620, 4, none⟩ = some (.int .i64 a1_4) := (blk_cell BK620.out 4).trans rfl
          have hcz60_5 : wr.cell? ⟨gb620, 5, none⟩ = some (.int .i64 a1_5) := (blk_cell BK620.out 5).trans rfl
          have hcz60_6 : wr.cell? ⟨gb620, 6, none⟩ = some (.int .i64 a1_6) := (blk_cell BK620.out 6).trans rfl
          have hcz60_7 : wr.cell? ⟨gb620, 7, none⟩ = some (.int .i64 a1_7) := (blk_cell BK620.out 7).trans rfl
          have hcz60_8 : wr.cell? ⟨gb620, 8, none⟩ = some (.int .i64 a1_8) := (blk_cell BK620.out 8).trans rfl
          have hcz60_9 : wr.cell? ⟨gb620, 9, none⟩ = some (.int .i64 a1_9) := (blk_cell BK620.out 9).trans rfl
          have hcz60_10 : wr.cell? ⟨gb620, 10, none⟩ = some (.int .i64 a1_10) := (blk_cell BK620.out 10).trans rfl
          have hcz60_11 : wr.cell? ⟨gb620, 11, none⟩ = some (.slice A1_11 l1_11.length c1_11) := (blk_cell BK620.out 11).trans rfl
          have hfz60_0 := blk_frozen BK620.out 0
          have hfz60_1 := blk_frozen BK620.out 1
          have hfz60_2 := blk_frozen BK620.out 2
          have hfz60_3 := blk_frozen BK620.out 3
          have hfz60_4 := blk_frozen BK620.out 4
          have hfz60_5 := blk_frozen BK620.out 5
          have hfz60_6 := blk_frozen BK620.out 6
          have hfz60_7 := blk_frozen BK620.out 7
          have hfz60_8 := blk_frozen BK620.out 8
          have hfz60_9 := blk_frozen BK620.out 9
          have hfz60_10 := blk_frozen BK620.out 10
          have hfz60_11 := blk_frozen BK620.out 11
          have p622 : 0 ≤ (x5_2 : Int) := oda
          have q622 : x5_2 < (l1_11.length : Int) := oda
          obtain ⟨ad622, e622, hx622_0, hx622_1⟩ := at_T102 HR1_11.out x5_2 p622 q622
          cases e622
          replace hx622_0 := (HB.out.cell (World.block_lt_of_cell? w _ hx622_0)).trans hx622_0
          replace hx622_1 := (HB.out.cell (World.block_lt_of_cell? w _ hx622_1)).trans hx622_1
          replace p622 := eq_true p622
          replace q622 := eq_true q622
          go_wp2
          repeat (go_quiet (fail); try go_wp2)
          go_ret
          exact ⟨by first | rfl | (simp [errW_none, errW_some] <;> rfl) | (simp [*, errW_none, errW_some] <;> rfl), by repeat (first | (with_reducible first | exact HB.out | apply below_alloc | apply pw_below_drewN | apply below_drew1 | refine below_set ?_ GE619.out | refine below_set ?_ GE620.out) | exact HB.out)⟩
         ·rw [if_neg c57] at H
          have c57b0 : (!(((rd_T102 l0_11 x5_2).f0) == ((rd_T102 l1_11 x5_2).f0)) || (!(((rd_T102 l0_11 x5_2).f1) == ((rd_T102 l1_11 x5_2).f1)))) = false := by simpa using c57
          clear c57
          have H' := Aside0.mk H
          clear H
          have hnb61 := NB619_620.out
          have hnc61 := NB620_619.out
          have hcz62_0 : wr.cell? ⟨gb619, 0, none⟩ = some (.int .i64 a0_0) := (blk_cell BK619.out 0).trans rfl
          have hcz62_1 : wr.cell? ⟨gb619, 1, none⟩ = some (.int .i64 a0_1) := (blk_cell BK619.out 1).trans rfl
          have hcz62_2 : wr.cell? ⟨gb619, 2, none⟩ = some (.int .i64 a0_2) := (blk_cell BK619.out 2).trans rfl
          have hcz62_3 : wr.cell? ⟨gb619, 3, none⟩ = some (.int .i64 a0_3) := (blk_cell BK619.out 3).trans rfl
          have hcz62_4 : wr.cell? ⟨gb619, 4, none⟩ = some (.int .i64 a0_4) := (blk_cell BK619.out 4).trans rfl
          have hcz62_5 : wr.cell? ⟨gb619, 5, none⟩ = some (.int .i64 a0_5) := (blk_cell BK619.out 5).trans rfl
          have hcz62_6 : wr.cell? ⟨gb619, 6, none⟩ = some (.int .i64 a0_6) := (blk_cell BK619.out 6).trans rfl
          have hcz62_7 : wr.cell? ⟨gb619, 7, none⟩ = some (.int .i64 a0_7) := (blk_cell BK619.out 7).trans rfl
          have hcz62_8 : wr.cell? ⟨gb619, 8, none⟩ = some (.int .i64 a0_8) := (blk_cell BK619.out 8).trans rfl
          have hcz62_9 : wr.cell? ⟨gb619, 9, none⟩ = some (.int .i64 a0_9) := (blk_cell BK619.out 9).trans rfl
          have hcz62_10 : wr.cell? ⟨gb619, 10, none⟩ = some (.int .i64 a0_10) := (blk_cell BK619.out 10).trans rfl
          have hcz62_11 : wr.cell? ⟨gb619, 11, none⟩ = some (.slice A0_11 l0_11.length c0_11) := (blk_cell BK619.out 11).trans rfl
          have hfz62_0 := blk_frozen BK619.out 0
          have hfz62_1 := blk_frozen BK619.out 1
          have hfz62_2 := blk_frozen BK619.out 2
          have hfz62_3 := blk_frozen BK619.out 3
          have hfz62_4 := blk_frozen BK619.out 4
          have hfz62_5 := blk_frozen BK619.out 5
          have hfz62_6 := blk_frozen BK619.out 6
          have hfz62_7 := blk_frozen BK619.out 7
          have hfz62_8 := blk_frozen BK619.out 8
          have hfz62_9 := blk_frozen BK619.out 9
          have hfz62_10 := blk_frozen BK619.out 10
          have hfz62_11 := blk_frozen BK619.out 11
          have p621 : 0 ≤ (x5_2 : Int) := oda
          have q621 : x5_2 < (l0_11.length : Int) := oda
          obtain ⟨ad621, e621, hx621_0, hx621_1⟩ := at_T102 HR0_11.out x5_2 p621 q621
          cases e621
          replace hx621_0 := (HB.out.cell (World.block_lt_of_cell? w _ hx621_0)).trans hx621_0
          replace hx621_1 := (HB.out.cell (World.block_lt_of_cell? w _ hx621_1)).trans hx621_1
          replace p621 := eq_true p621
          replace q621 := eq_true q621
          have hcz63_0 : wr.cell? ⟨gb620, 0, none⟩ = some (.int .i64 a1_0) := (blk_cell BK620.out 0).trans rfl
          have hcz63_1 : wr.cell? ⟨gb620, 1, none⟩ = some (.int .i64 a1_1) := (blk_cell BK620.out 1).trans rfl
          have hcz63_2 : wr.cell? ⟨gb620, 2, none⟩ = some (.int .i64 a1_2) := (blk_cell BK620.out 2).trans rfl
          have hcz63_3 : wr.cell? ⟨gb620, 3, none⟩ = some (.int .i64 a1_3) := (blk_cell BK620.out 3).trans rfl
          have hcz63_4 : wr.cell? ⟨gb620, 4, none⟩ = some (.int .i64 a1_4) := (blk_cell BK620.out 4).trans rfl
          have hcz63_5 : wr.cell? ⟨gb620, 5, none⟩ = some (.int .i64 a1_5) := (blk_cell BK620.out 5).trans rfl
          have hcz63_6 : wr.cell? ⟨gb620, 6, none⟩ = some (.int .i64 a1_6) := (blk_cell BK620.out 6).trans rfl
          have hcz63_7 : wr.cell? ⟨gb620, 7, none⟩ = some (.int .i64 a1_7) := (blk_cell BK620.out 7).trans rfl
          have hcz63_8 : wr.cell? ⟨gb620, 8, none⟩ = some (.int .i64 a1_8) := (blk_cell BK620.out 8).trans rfl
          have hcz63_9 : wr.cell? ⟨gb620, 9, none⟩ = some (.int .i64 a1_9) := (blk_cell BK620.out 9).trans rfl
          have hcz63_10 : wr.cell? ⟨gb620, 10, none⟩ = some (.int .i64 a1_10) := (blk_cell BK620.out 10).trans rfl
          have hcz63_11 : wr.cell? ⟨gb620, 11, none⟩ = some (.slice A1_11 l1_11.length c1_11) := (blk_cell BK620.out 11).trans rfl
          have hfz63_0 := blk_frozen BK620.out 0
          have hfz63_1 := blk_frozen BK620.out 1
          have hfz63_2 := blk_frozen BK620.out 2
          have hfz63_3 := blk_frozen BK620.out 3
          have hfz63_4 := blk_frozen BK620.out 4
          have hfz63_5 := blk_frozen BK620.out 5
          have hfz63_6 := blk_frozen BK620.out 6
          have hfz63_7 := blk_frozen BK620.out 7
          have hfz63_8 := blk_frozen BK620.out 8
          have hfz63_9 := blk_frozen BK620.out 9
          have hfz63_10 := blk_frozen BK620.out 10
          have hfz63_11 := blk_frozen BK620.out 11
          have p622 : 0 ≤ (x5_2 : Int) := oda
          have q622 : x5_2 < (l1_11.length : Int) := oda
          obtain ⟨ad622, e622, hx622_0, hx622_1⟩ := at_T102 HR1_11.out x5_2 p622 q622
          cases e622
          replace hx622_0 := (HB.out.cell (World.block_lt_of_cell? w _ hx622_0)).trans hx622_0
          replace hx622_1 := (HB.out.cell (World.block_lt_of_cell? w _ hx622_1)).trans hx622_1
          replace p622 := eq_true p622
          replace q622 := eq_true q622
          go_wp2
          repeat (go_quiet (fail); try go_wp2)
          go_roundg k2
          case measure => have := HJ2.out; have := HK2.out; omega
          case rel => exact ⟨(wrap64 (x5_2 + 1)), ez, H', ⟨by have := HJ2.out; have := HK2.out; omega⟩, ⟨mBK BK619.out⟩, ⟨mBK BK620.out⟩, ⟨mBs HB.out⟩⟩
        ·rw [if_neg c56] at H
         exact absurd H (by simp)
       ·rw [if_neg c55] at H
        exact absurd H (by simp)
      ·rw [if_neg c54] at H
       have c54b0 : decide (x5_2 < (l0_11.length : Int)) = false := decide_eq_false c54
       clear c54
       obtain rfl := Option.some.inj H
       have hnb64 := NB619_620.out
       have hnc64 := NB620_619.out
       have hcz65_0 : wr.cell? ⟨gb619, 0, none⟩ = some (.int .i64 a0_0) := (blk_cell BK619.out 0).trans rfl
       have hcz65_1 : wr.cell? ⟨gb619, 1, none⟩ = some (.int .i64 a0_1) := (blk_cell BK619.out 1).trans rfl
       have hcz65_2 : wr.cell? ⟨gb619, 2, none⟩ = some (.int .i64 a0_2) := (blk_cell BK619.out 2).trans rfl
       have hcz65_3 : wr.cell? ⟨gb619, 3, none⟩ = some (.int .i64 a0_3) := (blk_cell BK619.out 3).trans rfl
       have hcz65_4 : wr.cell? ⟨gb619, 4, none⟩ = some (.int .i64 a0_4) := (blk_cell BK619.out 4).trans rfl
       have hcz65_5 : wr.cell? ⟨gb619, 5, none⟩ = some (.int .i64 a0_5) := (blk_cell BK619.out 5).trans rfl
       have hcz65_6 : wr.cell? ⟨gb619, 6, none⟩ = some (.int .i64 a0_6) := (blk_cell BK619.out 6).trans rfl
       have hcz65_7 : wr.cell? ⟨gb619, 7, none⟩ = some (.int .i64 a0_7) := (blk_cell BK619.out 7).trans rfl
       have hcz65_8 : wr.cell? ⟨gb619, 8, none⟩ = some (.int .i64 a0_8) := (blk_cell BK619.out 8).trans rfl
       have hcz65_9 : wr.cell? ⟨gb619, 9, none⟩ = some (.int .i64 a0_9) := (blk_cell BK619.out 9).trans rfl
       have hcz65_10 : wr.cell? ⟨gb619, 10, none⟩ = some (.int .i64 a0_10) := (blk_cell BK619.out 10).trans rfl
       have hcz65_11 : wr.cell? ⟨gb619, 11, none⟩ = some (.slice A0_11 l0_11.length c0_11) := (blk_cell BK619.out 11).trans rfl
       have hfz65_0 := blk_frozen BK619.out 0
       have hfz65_1 := blk_frozen BK619.out 1
       have hfz65_2 := blk_frozen BK619.out 2
       have hfz65_3 := blk_frozen BK619.out 3
       have hfz65_4 := blk_frozen BK619.out 4
       have hfz65_5 := blk_frozen BK619.out 5
       have hfz65_6 := blk_frozen BK619.out 6
       have hfz65_7 := blk_frozen BK619.out 7
       have hfz65_8 := blk_frozen BK619.out 8
       have hfz65_9 := blk_frozen BK619.out 9
       have hfz65_10 := blk_frozen BK619.out 10
       have hfz65_11 := blk_frozen BK619.out 11
       go_wp2
       repeat (go_quiet (fail); try go_wp2)
       go_ret
       exact ⟨by first | rfl | (simp [errW_none, errW_some] <;> rfl) | (simp [*, errW_none, errW_some] <;> rfl), by repeat (first | (with_reducible first | exact HB.out | apply below_alloc | apply pw_below_drewN | apply below_drew1 | refine below_set ?_ GE619.out | refine below_set ?_ GE620.out) | exact HB.out)⟩

end Go.Proofs.Ytjmkpcnekghmhaa.PAll
end
