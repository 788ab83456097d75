/- Words, plain functions and contracts of the functions that the law of this claim reaches; no conditions. -/
import Derived.Test.YtjmkpcnekghmhaaBSnapDecodes5
section
namespace Go.Proofs.Ytjmkpcnekghmhaa.PAll
open Go.RowKit Go.Proofs.YtjmkpcnekghmhaaW.PrintWords Go.Proofs.YtjmkpcnekghmhaaW.PrintLast Go.Proofs.YtjmkpcnekghmhaaW.PrintMore
attribute [local go_sem] max2_int min2_int max_two min_two max_three min_three max_four min_four   -- for this text's walks alone
set_option linter.unusedVariables false
set_option linter.unusedSimpArgs false

def AtS (l : List Int) (at_ : Int) (s : List Int × Bool) : Prop := (at_ = -1 ∧ s.2 = true) ∨ ∃ a : Nat, at_ = (a : Int) ∧ a ≤ l.length ∧ s = (l.drop a, false)
theorem AtS.end_ {l : List Int} {at_ : Int} {s : List Int × Bool} (h : AtS l at_ s) : rEnd s = (at_ == (l.length : Int)) := by
 show rEnd s = decide (at_ = (l.length : Int))
 rcases h with ⟨rfl, h⟩ | ⟨a, rfl, h, rfl⟩
 ·rw [decide_eq_false (by omega)]; simp [rEnd, h]
 ·by_cases hc : a = l.length
  ·subst hc; simp [rEnd]
  ·rw [decide_eq_false (by omega)]; simp [rEnd]; omega
theorem u64_e (z : Int) : IntKind.u64.wrap z = z % 18446744073709551616 := rfl
theorem acc_step (u c : Int) (hc : 0 ≤ c ∧ c ≤ 255) : wrap64 (IntKind.u64.wrap ((IntKind.u64.wrap (u * 256)) + (IntKind.u64.wrap c))) = wrap64 (wrap64 u * 256 + c) := by
 rw [u64_e, u64_e, u64_e]; unfold wrap64; omega
theorem num_run {l : List Int} (hb : ∀ x ∈ l, 0 ≤ x ∧ x ≤ 255) (a : Nat) (ha : a + 8 ≤ l.length) (hl : l.length < 140737488355328) : ∀ (d j : Nat) (u : Int), j + d = 8 → ∀ k, prebendref03_Number.l0 (k + d + 1) l a u j = some (numS ((l.drop (a + j)).take d) (wrap64 u), (a : Int) + 8)
 | 0, j, u, h, k => by
  obtain rfl : j = 8 := by omega
  rw [prebendref03_Number.l0.eq_2, if_neg (by omega)]
  simp only [List.take_zero, numS]
  rw [show wrap64 ((a : Int) + 8) = (a : Int) + 8 by unfold wrap64; omega]
 | d + 1, j, u, h, k => by
  have e1 : wrap64 ((a : Int) + (j : Int)) = ((a + j : Nat) : Int) := by unfold wrap64; omega
  have e2 : wrap64 ((j : Int) + 1) = ((j + 1 : Nat) : Int) := by unfold wrap64; omega
  have hlt : a + j < l.length := by omega
  have hr : rd l ((a + j : Nat) : Int) = l[a + j] := by
   show l.getD ((a + j : Nat) : Int).toNat 0 = _
   rw [Int.toNat_natCast]; simp [List.getD_eq_getElem?_getD, hlt]
  have hc := hb _ (List.getElem_mem hlt)
  rw [show k + (d + 1) + 1 = (k + d + 1) + 1 by omega, prebendref03_Number.l0.eq_2]
  rw [if_pos (by omega), e1, e2, if_pos (by omega), if_pos (by omega), num_run hb a ha hl d (j + 1) _ (by omega) k, hr, acc_step _ _ hc, List.drop_eq_getElem_cons hlt, List.take_succ_cons, numS, or_byte _ _ hc.1 (by omega)]
  rfl
theorem number_at (k : Nat) {l : List Int} (hb : ∀ x ∈ l, 0 ≤ x ∧ x ≤ 255) (hl : l.length < 140737488355328) {at_ : Int} {s : List Int × Bool} (h : AtS l at_ s) : ∃ at1, prebendref03_Number.f (k + 10) l at_ = some ((rInt s).1, at1) ∧ AtS l at1 (rInt s).2 := by
 rcases h with ⟨rfl, h⟩ | ⟨a, rfl, h, rfl⟩
 ·refine ⟨-1, ?_, .inl ⟨rfl, ?_⟩⟩
  ·unfold prebendref03_Number.f; rw [if_pos (by omega), prebendref03_Number.j0.eq_2, if_pos rfl]; simp [rInt, h]
  ·simp [rInt, h]
 ·have e1 : wrap64 ((a : Int) + 8) = (a : Int) + 8 := by unfold wrap64; omega
  unfold prebendref03_Number.f
  rw [if_neg (by omega), e1, prebendref03_Number.j0.eq_2]
  by_cases hc : a + 8 ≤ l.length
  ·rw [if_neg (by simp; omega)]
   have this : prebendref03_Number.l0 (k + 9) l a 0 0 = some (numS ((l.drop a).take 8) 0, (a : Int) + 8) := by
    have h0 : wrap64 0 = 0 := by decide +kernel
    have := num_run hb a hc hl 8 0 0 rfl k
    rw [h0, Nat.add_zero] at this
    exact this
   refine ⟨(a : Int) + 8, ?_, .inr ⟨a + 8, by simp, hc, ?_⟩⟩
   ·rw [show rInt (l.drop a, false) = (numS ((l.drop a).take 8) 0, ((l.drop a).drop 8, false)) by unfold rInt; rw [if_neg (by simp; omega)]]
    exact this
   ·unfold rInt; rw [if_neg (by simp; omega)]; simp [List.drop_drop]
  ·rw [if_pos (by simp; omega)]
   have e : rInt (l.drop a, false) = (0, (l.drop a, true)) := by unfold rInt; rw [if_pos (by simp; omega)]
   rw [e]
   exact ⟨-1, rfl, .inl ⟨rfl, rfl⟩⟩
theorem word_at (k : Nat) {l : List Int} (hb : ∀ x ∈ l, 0 ≤ x ∧ x ≤ 255) (hl : l.length < 140737488355328) {at_ : Int} {s : List Int × Bool} (m : Int) (h : AtS l at_ s) : ∃ at1, prebendref03_Word.f (k + 1) l at_ m = some (strOfNums (rText s m).1, at1) ∧ AtS l at1 (rText s m).2 := by
 rcases h with ⟨rfl, h⟩ | ⟨a, rfl, h, rfl⟩
 ·refine ⟨-1, ?_, .inl ⟨rfl, ?_⟩⟩
  ·unfold prebendref03_Word.f; rw [if_pos (by omega), prebendref03_Word.j0.eq_2, if_pos rfl]; simp [rText, h]; rfl
  ·simp [rText, h]
 ·have e1 : wrap64 ((a : Int) + 2) = ((a + 2 : Nat) : Int) := by unfold wrap64; omega
  have e2 : wrap64 ((a : Int) + 1) = ((a + 1 : Nat) : Int) := by unfold wrap64; omega
  unfold prebendref03_Word.f
  rw [if_neg (by omega), e1, prebendref03_Word.j0.eq_2]
  by_cases hc : a + 2 ≤ l.length
  ·rw [if_neg (by simp; omega), e1, e2]
   have hx := hb (rd l (a : Int)) (by simp [rd, List.getD_eq_getElem?_getD, show a < l.length by omega])
   have hy := hb (rd l ((a + 1 : Nat) : Int)) (by simp [rd, List.getD_eq_getElem?_getD, show a + 1 < l.length by omega])
   have hn : numS ((l.drop a).take 2) 0 = rd l (a : Int) * 256 + rd l ((a + 1 : Nat) : Int) := by
    rw [take_two (by simp; omega)]
    rw [show (l.drop a).getD 0 0 = rd l (a : Int) by simp [rd, List.getD_eq_getElem?_getD], show (l.drop a).getD 1 0 = rd l ((a + 1 : Nat) : Int) by simp [rd, List.getD_eq_getElem?_getD]]
    exact numS_two _ _ hx hy
   generalize hX : rd l (a : Int) = x at *
   generalize hY : rd l ((a + 1 : Nat) : Int) = y at *
   have e3 : wrap64 (wrap64 (wrap64 x * 256) + wrap64 y) = x * 256 + y := by unfold wrap64; omega
   have e4 : wrap64 (((a + 2 : Nat) : Int) + (x * 256 + y)) = ((a + 2 : Nat) : Int) + (x * 256 + y) := by unfold wrap64; omega
   have hS : rText (l.drop a, false) m = if x * 256 + y > m ∨ ((l.length - a - 2 : Nat) : Int) < x * 256 + y then ([], ((l.drop a).drop 2, true)) else (((l.drop a).drop 2).take (x * 256 + y).toNat, (((l.drop a).drop 2).drop (x * 256 + y).toNat, false)) := by
    unfold rText
    rw [if_neg (by simp; omega)]
    simp only [hn, List.length_drop]
   rw [e3, e4, if_pos (by omega), if_pos (by omega), if_pos (by omega), if_pos (by omega), hS]
   by_cases c1 : x * 256 + y > m
   ·rw [if_pos c1, if_pos (.inl c1)]
    exact ⟨-1, rfl, .inl ⟨rfl, rfl⟩⟩
   ·rw [if_neg c1]
    by_cases c2 : ((a + 2 : Nat) : Int) + (x * 256 + y) > (l.length : Int)
    ·rw [if_pos c2, if_pos (.inr (by omega))]
     exact ⟨-1, rfl, .inl ⟨rfl, rfl⟩⟩
    ·rw [if_neg c2, if_pos (by omega), if_pos (by omega), if_pos (by omega), if_neg (by omega)]
     refine ⟨_, ?_, .inr ⟨a + 2 + (x * 256 + y).toNat, rfl, by omega, ?_⟩⟩
     ·rw [show ((a + 2 + (x * 256 + y).toNat : Nat) : Int) = ((a + 2 : Nat) : Int) + (x * 256 + y) by omega]
      congr 3
      rw [List.drop_take, List.drop_drop]
      congr 1 <;> omega
     ·simp [List.drop_drop]
  ·rw [if_pos (by simp; omega)]
   have e : rText (l.drop a, false) m = ([], (l.drop a, true)) := by unfold rText; rw [if_pos (by simp; omega)]
   rw [e]
   exact ⟨-1, rfl, .inl ⟨rfl, rfl⟩⟩
theorem puts_drew (p : Nat) (W : World) : Puts p W W.drew := fun B hB => ⟨fun w0 h => below_drew h, rfl, fun _ _ => rfl⟩
theorem puts_drawn {p : Nat} {W W1 : World} (h : Drawn0 W W1) : Puts p W W1 := by
 obtain ⟨nd, rfl⟩ := h
 exact fun B hB => ⟨fun w0 h => pw_below_drewN h nd, rfl, fun _ _ => rfl⟩
structure QR (q c : Nat) (A : Option Addr) (l : List Int) (s : List Int × Bool) (W : World) : Prop where
 ex : ∃ at_, AtS l at_ s ∧ W.heap[q]? = some (.cells #[.slice A l.length c, .int .i64 at_] 125 (0, 0))
theorem QR.go {q c : Nat} {A : Option Addr} {l : List Int} {s : List Int × Bool} {W W1 : World} (h : QR q c A l s W) (hk : W1.heap[q]? = W.heap[q]?) : QR q c A l s W1 := by
 obtain ⟨at_, h1, h2⟩ := h.ex
 exact ⟨at_, h1, hk.trans h2⟩
theorem QR.lt {q c : Nat} {A : Option Addr} {l : List Int} {s : List Int × Bool} {W : World} (h : QR q c A l s W) : q < W.heap.size := by
 obtain ⟨at_, h1, h2⟩ := h.ex
 exact blk_lt h2
structure Src (A : Option Addr) (c : Nat) (l : List Int) (W : World) : Prop where
 C : Kd.C (Kd.int .u8) W A l.length l
 cap : l.length ≤ c
 byt : ∀ x ∈ l, 0 ≤ x ∧ x ≤ 255
 len : l.length < 140737488355328

def Q63.T1 : Bool × List (List Nat × List Nat) := (true, [([], []), ([0], [0]), ([1], [1]), ([2], [2]), ([], []), ([4], [4]), ([5], [5]), ([6], [6]), ([3, 7], [3, 7]), ([8], [8]), ([9], [9]), ([9], [9]), ([10, 8, 0, 1, 2, 3, 4, 5, 6, 7, 8, 9, 10], [10]), ([11, 12, 0, 1, 2, 3, 4, 5, 6, 7, 8, 9, 10, 11, 12], [11])])
def Q63.B1 : List Nat := [0, 1, 3, 7, 0, 16, 48, 112, 255, 511, 1023, 1023, 2047, 8191]
theorem Q63.tab1 : rtab .any (opsOf Try.f63 1) = Q63.T1 := by kernel_rfl
theorem Q63.bits1 : waitsOk Q63.T1.2 Q63.B1 = true := by kernel_rfl

set_option maxHeartbeats 4000000 in
theorem num_q {q c : Nat} {A : Option Addr} {l : List Int} (s : List Int × Bool) (W : World) (hS : Src A c l W) (h : QR q c A l s W) :
  Calls Try.prog 63 #[.pointer (some ⟨q, 0, none⟩)] W fun e W' => e = .returned (.int .i64 (rInt s).1) ∧ QR q c A l (rInt s).2 W' ∧ Puts q W W' := by
 obtain ⟨at_, ha, hq⟩ := h.ex
 obtain ⟨at1, hf, h1⟩ := number_at 20 hS.byt hS.len ha
 have HS := Aside0.mk hS
 have HQ := Aside0.mk hq
 have HF := Aside0.mk hf
 have H1 := Aside0.mk h1
 obtain ⟨rv, hrv⟩ : ∃ rv, (rInt s).1 = rv := ⟨_, rfl⟩
 rw [hrv] at HF ⊢
 clear h; clear hS; clear ha; clear hq; clear hf; clear h1; clear hrv
 go_enter Try.func63, Try.ntmps63
 go_upto_region 1 with (fail)
 refine start_ (n := 14) (S := fun w' => w'.cell? ⟨q, 0, none⟩ = some (.slice A l.length c) ∧ w'.cell? ⟨q, 1, none⟩ = some (.int .i64 at_)) (ds := []) #[false, false, false, false, false, false, false, false, false, false, false, false, false, false] (by kernel_rfl) rfl rfl ⟨(blk_cell HQ.out 0).trans rfl, (blk_cell HQ.out 1).trans rfl⟩ (fun hHeld => ?_); refine with_tabW Q63.tab1 Q63.bits1 (fun HT_ HW_ => ?_)
 have n_ := Aside0.mk (blk_below HQ.out (below_drew (Below.refl _ _)))
 clear HQ
 have HQ := n_
 have HP := Aside0.mk (puts_drew q W)
 have HC := Aside0.mk (Kd.C_below HS.out.C (below_drew (Below.refl _ _)))
 clear n_
 generalize World.drew _ = wz at HQ HP HC hHeld ⊢
 refine plan_ [(0, 6), (1, 7), (2, 8)] ?_
 iterate 3 (refine planP_ (v := ?_) (a' := ?_) rfl rfl (any_of HT_.out (by kernel_rfl)) (fun _ _ _ h => h) (Or.inl ⟨by rfl, ?_⟩) ?_ ?_; rotate_left; (intro w'; go_simp; with_reducible rfl); rotate_left; (simp only [Act.put, List.setIfInBounds_toArray, List.set_cons_zero, List.set_cons_succ, i64_w, i32_w]; rfl))
 refine planEnd_ ?_
 refine plan_ [(3, 9)] ?_
 refine planT_ (v := ?_) (a' := ?_) rfl rfl (take_ofW HT_.out HW_.out (by kernel_rfl)) (fun _ _ _ h => h) (Or.inl ⟨by rfl, ?_⟩) hHeld ?_ ?_; rotate_left; (rintro w' hs_; obtain ⟨s0, s1⟩ := hs_; go_simp; with_reducible rfl); rotate_left; (simp only [Act.put, List.setIfInBounds_toArray, List.set_cons_zero, List.set_cons_succ, i64_w, i32_w]; rfl)
 refine planEnd_ ?_
 refine plan_ [(4, 10), (5, 11), (6, 12)] ?_
 iterate 3 (refine planP_ (v := ?_) (a' := ?_) rfl rfl (any_of HT_.out (by kernel_rfl)) (fun _ _ _ h => h) (Or.inl ⟨by rfl, ?_⟩) ?_ ?_; rotate_left; (intro w'; go_simp; with_reducible rfl); rotate_left; (simp only [Act.put, List.setIfInBounds_toArray, List.set_cons_zero, List.set_cons_succ, i64_w, i32_w]; rfl))
 refine planEnd_ ?_
 refine plan_ [(7, 13)] ?_
 refine planT_ (v := ?_) (a' := ?_) rfl rfl (take_ofW HT_.out HW_.out (by kernel_rfl)) (fun _ _ _ h => h) (Or.inl ⟨by rfl, ?_⟩) hHeld ?_ ?_; rotate_left; (rintro w' hs_; obtain ⟨s0, s1⟩ := hs_; go_simp; with_reducible rfl); rotate_left; (simp only [Act.put, List.setIfInBounds_toArray, List.set_cons_zero, List.set_cons_succ, i64_w, i32_w]; rfl)
 refine planEnd_ ?_
 refine one_ (i := 8) (N := some 14) #[true, true, true, true, true, true, true, true, true, false, false, false, false, false] rfl rfl (one_of HT_.out (by kernel_rfl)) (by decide) (fun K hK => ?_)
 refine goes_ Try.func24 (by kernel_rfl) rfl #[.slice A l.length c, .int .i64 at_] (by rfl) rfl rfl mt ?_
 with_reducible refine (prebendref03_Number.calls (20 + 10) A c l at_  _ _ wz HC.out HS.out.cap HF.out).mono ?_
 rintro e w1 ⟨rfl, hd⟩; have p_ := puts_drawn (p := q) hd; have n_ := Aside0.mk ((show w1.heap[q]? = wz.heap[q]? from by obtain ⟨nd, rfl⟩ := hd; rfl).trans HQ.out); have m_ := Aside0.mk (HP.out.trans p_); clear HQ HP p_ hd; have HQ := n_; have HP := m_; clear n_ m_
 refine ⟨_, rfl, ?_⟩
 refine hK.out _ _ ⟨(blk_cell HQ.out 0).trans rfl, (blk_cell HQ.out 1).trans rfl⟩ (fun hHeld => ?_)
 clear hK; clear K
 refine norm_ (a' := ?_) ?_ ?_
 rotate_left
 ·show Act.put _ (some 14) _ = _
  simp only [Act.put, List.setIfInBounds_toArray, List.set_cons_zero, List.set_cons_succ, i64_w, i32_w]
  rfl
 refine plan_ [(9, 5), (10, 15), (11, 16), (12, 3), (13, 4)] ?_
 iterate 5 (refine planP_ (v := ?_) (a' := ?_) rfl rfl (any_of HT_.out (by kernel_rfl)) (fun _ _ _ h => h) (Or.inl ⟨by rfl, ?_⟩) ?_ ?_; rotate_left; (intro w'; go_simp; with_reducible rfl); rotate_left; (simp only [Act.put, List.setIfInBounds_toArray, List.set_cons_zero, List.set_cons_succ, i64_w, i32_w]; rfl))
 refine planEnd_ ?_
 refine done_ (done_of HT_.out (by kernel_rfl)) ?_
 have hz : World.cell? w1 ⟨q, 1, none⟩ = some (.int .i64 at_) := (blk_cell HQ.out 1).trans rfl
 have hfz := blk_frozen HQ.out 1
 go_wp2
 go_ret
 exact ⟨rfl, ⟨⟨at1, H1.out, blk_put HQ.out 1 _ rfl⟩⟩, HP.out.set 1 _⟩

def Q65.T1 : Bool × List (List Nat × List Nat) := (true, [([], []), ([0], [0]), ([1], [1]), ([2], [2]), ([], []), ([4], [4]), ([5], [5]), ([6], [6]), ([3, 7], [3, 7]), ([8], [8]), ([9], [9]), ([9], [9]), ([10, 8, 0, 1, 2, 3, 4, 5, 6, 7, 8, 9, 10], [10]), ([11, 12, 0, 1, 2, 3, 4, 5, 6, 7, 8, 9, 10, 11, 12], [11])])
def Q65.B1 : List Nat := [0, 1, 3, 7, 0, 16, 48, 112, 255, 511, 1023, 1023, 2047, 8191]
theorem Q65.tab1 : rtab .any (opsOf Try.f65 1) = Q65.T1 := by kernel_rfl
theorem Q65.bits1 : waitsOk Q65.T1.2 Q65.B1 = true := by kernel_rfl

set_option maxHeartbeats 4000000 in
theorem word_q {q c : Nat} {A : Option Addr} {l : List Int} (s : List Int × Bool) (W : World) (hS : Src A c l W) (h : QR q c A l s W) :
  Calls Try.prog 65 #[.pointer (some ⟨q, 0, none⟩)] W fun e W' => e = .returned (.string (strOfNums (rText s 16).1)) ∧ QR q c A l (rText s 16).2 W' ∧ Puts q W W' := by
 obtain ⟨at_, ha, hq⟩ := h.ex
 obtain ⟨at1, hf, h1⟩ := word_at 30 hS.byt hS.len 16 ha
 have HS := Aside0.mk hS
 have HQ := Aside0.mk hq
 have HF := Aside0.mk hf
 have H1 := Aside0.mk h1
 obtain ⟨rv, hrv⟩ : ∃ rv, strOfNums (rText s 16).1 = rv := ⟨_, rfl⟩
 rw [hrv] at HF ⊢
 clear h; clear hS; clear ha; clear hq; clear hf; clear h1; clear hrv
 go_enter Try.func65, Try.ntmps65
 go_upto_region 1 with (fail)
 refine start_ (n := 14) (S := fun w' => w'.cell? ⟨q, 0, none⟩ = some (.slice A l.length c) ∧ w'.cell? ⟨q, 1, none⟩ = some (.int .i64 at_)) (ds := []) #[false, false, false, false, false, false, false, false, false, false, false, false, false, false] (by kernel_rfl) rfl rfl ⟨(blk_cell HQ.out 0).trans rfl, (blk_cell HQ.out 1).trans rfl⟩ (fun hHeld => ?_); refine with_tabW Q65.tab1 Q65.bits1 (fun HT_ HW_ => ?_)
 have n_ := Aside0.mk (blk_below HQ.out (below_drew (Below.refl _ _)))
 clear HQ
 have HQ := n_
 have HP := Aside0.mk (puts_drew q W)
 have HC := Aside0.mk (Kd.C_below HS.out.C (below_drew (Below.refl _ _)))
 clear n_
 generalize World.drew _ = wz at HQ HP HC hHeld ⊢
 refine plan_ [(0, 6), (1, 7), (2, 8)] ?_
 iterate 3 (refine planP_ (v := ?_) (a' := ?_) rfl rfl (any_of HT_.out (by kernel_rfl)) (fun _ _ _ h => h) (Or.inl ⟨by rfl, ?_⟩) ?_ ?_; rotate_left; (intro w'; go_simp; with_reducible rfl); rotate_left; (simp only [Act.put, List.setIfInBounds_toArray, List.set_cons_zero, List.set_cons_succ, i64_w, i32_w]; rfl))
 refine planEnd_ ?_
 refine plan_ [(3, 9)] ?_
 refine planT_ (v := ?_) (a' := ?_) rfl rfl (take_ofW HT_.out HW_.out (by kernel_rfl)) (fun _ _ _ h => h) (Or.inl ⟨by rfl, ?_⟩) hHeld ?_ ?_; rotate_left; (rintro w' hs_; obtain ⟨s0, s1⟩ := hs_; go_simp; with_reducible rfl); rotate_left; (simp only [Act.put, List.setIfInBounds_toArray, List.set_cons_zero, List.set_cons_succ, i64_w, i32_w]; rfl)
 refine planEnd_ ?_
 refine plan_ [(4, 10), (5, 11), (6, 12)] ?_
 iterate 3 (refine planP_ (v := ?_) (a' := ?_) rfl rfl (any_of HT_.out (by kernel_rfl)) (fun _ _ _ h => h) (Or.inl ⟨by rfl, ?_⟩) ?_ ?_; rotate_left; (intro w'; go_simp; with_reducible rfl); rotate_left; (simp only [Act.put, List.setIfInBounds_toArray, List.set_cons_zero, List.set_cons_succ, i64_w, i32_w]; rfl))
 refine planEnd_ ?_
 refine plan_ [(7, 13)] ?_
 refine planT_ (v := ?_) (a' := ?_) rfl rfl (take_ofW HT_.out HW_.out (by kernel_rfl)) (fun _ _ _ h => h) (Or.inl ⟨by rfl, ?_⟩) hHeld ?_ ?_; rotate_left; (rintro w' hs_; obtain ⟨s0, s1⟩ := hs_; go_simp; with_reducible rfl); rotate_left; (simp only [Act.put, List.setIfInBounds_toArray, List.set_cons_zero, List.set_cons_succ, i64_w, i32_w]; rfl)
 refine planEnd_ ?_
 refine one_ (i := 8) (N := some 14) #[true, true, true, true, true, true, true, true, true, false, false, false, false, false] rfl rfl (one_of HT_.out (by kernel_rfl)) (by decide) (fun K hK => ?_)
 refine goes_ Try.func22 (by kernel_rfl) rfl #[.slice A l.length c, .int .i64 at_, .int .i64 16] (by rfl) rfl rfl mt ?_
 with_reducible refine (prebendref03_Word.calls (30 + 1) A c l at_ 16 _ _ wz HC.out HS.out.cap HF.out).mono ?_
 rintro e w1 ⟨rfl, hd⟩; have p_ := puts_drawn (p := q) hd; have n_ := Aside0.mk ((show w1.heap[q]? = wz.heap[q]? from by obtain ⟨nd, rfl⟩ := hd; rfl).trans HQ.out); have m_ := Aside0.mk (HP.out.trans p_); clear HQ HP p_ hd; have HQ := n_; have HP := m_; clear n_ m_
 refine ⟨_, rfl, ?_⟩
 refine hK.out _ _ ⟨(blk_cell HQ.out 0).trans rfl, (blk_cell HQ.out 1).trans rfl⟩ (fun hHeld => ?_)
 clear hK; clear K
 refine norm_ (a' := ?_) ?_ ?_
 rotate_left
 ·show Act.put _ (some 14) _ = _
  simp only [Act.put, List.setIfInBounds_toArray, List.set_cons_zero, List.set_cons_succ, i64_w, i32_w]
  rfl
 refine plan_ [(9, 5), (10, 15), (11, 16), (12, 3), (13, 4)] ?_
 iterate 5 (refine planP_ (v := ?_) (a' := ?_) rfl rfl (any_of HT_.out (by kernel_rfl)) (fun _ _ _ h => h) (Or.inl ⟨by rfl, ?_⟩) ?_ ?_; rotate_left; (intro w'; go_simp; with_reducible rfl); rotate_left; (simp only [Act.put, List.setIfInBounds_toArray, List.set_cons_zero, List.set_cons_succ, i64_w, i32_w]; rfl))
 refine planEnd_ ?_
 refine done_ (done_of HT_.out (by kernel_rfl)) ?_
 have hz : World.cell? w1 ⟨q, 1, none⟩ = some (.int .i64 at_) := (blk_cell HQ.out 1).trans rfl
 have hfz := blk_frozen HQ.out 1
 go_wp2
 go_ret
 exact ⟨rfl, ⟨⟨at1, H1.out, blk_put HQ.out 1 _ rfl⟩⟩, HP.out.set 1 _⟩

def rMany (m : Int) (s : List Int × Bool) : Int × (List Int × Bool) := if 0 ≤ (rInt s).1 ∧ (rInt s).1 ≤ m then rInt s else (0, ((rInt s).2.1, true))
set_option maxHeartbeats 4000000 in
theorem many_q {q c : Nat} {A : Option Addr} {l : List Int} (m : Int) (s : List Int × Bool) (W : World) (hS : Src A c l W) (h : QR q c A l s W) :
  Calls Try.prog 64 #[.pointer (some ⟨q, 0, none⟩), .int .i64 m] W fun e W' => e = .returned (.int .i64 (rMany m s).1) ∧ QR q c A l (rMany m s).2 W' ∧ Puts q W W' := by
 obtain ⟨st, hst⟩ : ∃ st, rInt s = st := ⟨_, rfl⟩
 have hdef : rMany m s = if 0 ≤ st.1 ∧ st.1 ≤ m then st else (0, (st.2.1, true)) := by unfold rMany; rw [hst]
 rw [hdef]
 have HC := num_q s W hS h
 rw [hst] at HC
 have HCC := Aside0.mk HC
 clear HC; clear hS; clear h; clear hst; clear hdef
 by_cases c0 : st.1 < 0
 ·have c0b : decide (st.1 < 0) = true := decide_eq_true c0
  rw [if_neg (by omega)]
  clear c0
  go_enter Try.func64, Try.ntmps64
  go_wp2_with (first | (go_at_call 63; (with_reducible refine HCC.out.mono ?_); rintro e w1 ⟨rfl, hr, hp⟩; obtain ⟨at_, h1, h2⟩ := hr.ex; have hz : World.cell? w1 ⟨q, 1, none⟩ = some (.int .i64 at_) := (blk_cell h2 1).trans rfl; have hfz := blk_frozen h2 1; have HQ := Aside0.mk h2; have HP := Aside0.mk hp; clear hr hp h1 h2))
  go_ret
  exact ⟨rfl, ⟨⟨-1, .inl ⟨rfl, rfl⟩, blk_put HQ.out 1 _ rfl⟩⟩, HP.out.set 1 _⟩
 ·have c0b : decide (st.1 < 0) = false := decide_eq_false c0
  by_cases c1 : m < st.1
  ·have c1b : decide (m < st.1) = true := decide_eq_true c1
   rw [if_neg (by omega)]
   clear c0; clear c1
   go_enter Try.func64, Try.ntmps64
   go_wp2_with (first | (go_at_call 63; (with_reducible refine HCC.out.mono ?_); rintro e w1 ⟨rfl, hr, hp⟩; obtain ⟨at_, h1, h2⟩ := hr.ex; have hz : World.cell? w1 ⟨q, 1, none⟩ = some (.int .i64 at_) := (blk_cell h2 1).trans rfl; have hfz := blk_frozen h2 1; have HQ := Aside0.mk h2; have HP := Aside0.mk hp; clear hr hp h1 h2))
   go_ret
   exact ⟨rfl, ⟨⟨-1, .inl ⟨rfl, rfl⟩, blk_put HQ.out 1 _ rfl⟩⟩, HP.out.set 1 _⟩
  ·have c1b : decide (m < st.1) = false := decide_eq_false c1
   rw [if_pos (by omega)]
   clear c0; clear c1
   go_enter Try.func64, Try.ntmps64
   go_wp2_with (first | (go_at_call 63; (with_reducible refine HCC.out.mono ?_); rintro e w1 ⟨rfl, hr, hp⟩; have HQ := Aside0.mk hr; have HP := Aside0.mk hp; clear hr hp))
   go_ret
   exact ⟨rfl, HQ.out, HP.out⟩

def qList {α : Type} (one : RS → α × RS) (m : Int) (s : RS) : List α × RS := rLoop one (rMany m s.1).1.toNat ((rMany m s.1).2, s.2) []
def qJob (s : RS) : S100 × RS := (⟨(rInts 11 s.1).1.getD 0 0, (rInts 11 s.1).1.getD 1 0, (rInts 11 s.1).1.getD 2 0, (rInts 11 s.1).1.getD 3 0, (rInts 11 s.1).1.getD 4 0, (rInts 11 s.1).1.getD 5 0, (rInts 11 s.1).1.getD 6 0, (rInts 11 s.1).1.getD 7 0, (rInts 11 s.1).1.getD 8 0, (rInts 11 s.1).1.getD 9 0, (rInts 11 s.1).1.getD 10 0, (qList dDraw 16 ((rInts 11 s.1).2, s.2)).1⟩, (qList dDraw 16 ((rInts 11 s.1).2, s.2)).2)
theorem R_apart {α β : Type} {d : Kd α} {d' : Kd β} {e e' base base' : Nat} {ok ok' : Nat → Prop} {v v' : Value} {xs : List α} {ys : List β} {W W1 : World} (h : d.R e W base ok v xs) (h' : d'.R e' W base' ok' v' ys) (hE : ∀ q, q ∈ e :: d.E → e' ≠ q) (hg : W.grownBy W1 v'.ownBlock) : d.R e W1 base ok v xs :=
 Kd.R_mono (Kd.R_step (Kd.R_bound h) (fun k hk hlt => hg.block k hlt (fun he => by
  obtain ⟨_, _, _, qq, hq, cells, hc⟩ := hk
  exact Kd.R_ne h' hc (hE qq hq) he))) (fun k hk => hk.1)
theorem Src.at_ {A : Option Addr} {c : Nat} {l : List Int} {w W : World} (h : Src A c l w) (hb : Below w.heap.size w W) : Src A c l W := ⟨Kd.C_below h.C hb, h.cap, h.byt, h.len⟩
structure QT (w : World) (gr gb q c : Nat) (A : Option Addr) (l : List Int) (s : List Int × Bool) (a0 a1 a2 : Int) (v3 v4 v5 v6 v7 : Value) (x3 : List S93) (x4 : List S95) (x5 : List S97) (x6 : List S100) (x7 : List ByteArray) (ok : Nat → Prop) (W : World) : Prop where
 res : W.heap[gr]? = some (.cells #[.int .i64 0, .int .i64 0, .int .i64 0, .slice none 0 0, .slice none 0 0, .slice none 0 0, .slice none 0 0, .slice none 0 0] 67 (0, 0))
 blk : W.heap[gb]? = some (.cells #[.int .i64 a0, .int .i64 a1, .int .i64 a2, v3, v4, v5, v6, v7] 67 (0, 0))
 qr : QR q c A l s W
 src : Src A c l w
 o3 : Kd.R k93 93 W w.heap.size ok v3 x3
 o4 : Kd.R k95 95 W w.heap.size ok v4 x4
 o5 : Kd.R k97 97 W w.heap.size ok v5 x5
 o6 : Kd.R k100 100 W w.heap.size ok v6 x6
 o7 : Kd.R Kd.string 9 W w.heap.size ok v7 x7
 below : Below w.heap.size w W
 lo : w.heap.size ≤ gr ∧ gr < q ∧ q < gb
 okb : ∀ k, ok k → gb < k
section
variable {w : World} {gr gb q c : Nat} {A : Option Addr} {l : List Int} {s s' : List Int × Bool} {a0 a1 a2 : Int} {v3 v4 v5 v6 v7 v : Value} {x3 : List S93} {x4 : List S95} {x5 : List S97} {x6 : List S100} {x7 : List ByteArray} {ok ok' : Nat → Prop} {W W1 W2 : World} {S : Nat → Prop}
theorem QT.ch (h : QT w gr gb q c A l s a0 a1 a2 v3 v4 v5 v6 v7 x3 x4 x5 x6 x7 ok W) (hc : Ch S W W1) (hS : ∀ k, S k → k = q ∨ (gb < k ∧ ¬ ok k)) (hq : QR q c A l s' W1) : QT w gr gb q c A l s' a0 a1 a2 v3 v4 v5 v6 v7 x3 x4 x5 x6 x7 ok W1 := by
 have hlo := h.lo
 exact ⟨hc.keep h.res (fun hk => by have := hS _ hk; omega), hc.keep h.blk (fun hk => by have := hS _ hk; omega), hq, h.src, Kd.R_step h.o3 (fun k ho hlt => hc.block k hlt (fun hk => by have := h.okb k ho; have := h.lo; rcases hS k hk with h1 | h1; (omega); (exact h1.2 ho))), Kd.R_step h.o4 (fun k ho hlt => hc.block k hlt (fun hk => by have := h.okb k ho; have := h.lo; rcases hS k hk with h1 | h1; (omega); (exact h1.2 ho))), Kd.R_step h.o5 (fun k ho hlt => hc.block k hlt (fun hk => by have := h.okb k ho; have := h.lo; rcases hS k hk with h1 | h1; (omega); (exact h1.2 ho))), Kd.R_step h.o6 (fun k ho hlt => hc.block k hlt (fun hk => by have := h.okb k ho; have := h.lo; rcases hS k hk with h1 | h1; (omega); (exact h1.2 ho))), Kd.R_step h.o7 (fun k ho hlt => hc.block k hlt (fun hk => by have := h.okb k ho; have := h.lo; rcases hS k hk with h1 | h1; (omega); (exact h1.2 ho))), hc.below h.below (fun k hk => by have := hS k hk; omega), h.lo, h.okb⟩
theorem QT.puts (h : QT w gr gb q c A l s a0 a1 a2 v3 v4 v5 v6 v7 x3 x4 x5 x6 x7 ok W) (hq : QR q c A l s' W1) (hp : Puts q W W1) : QT w gr gb q c A l s' a0 a1 a2 v3 v4 v5 v6 v7 x3 x4 x5 x6 x7 ok W1 := h.ch (Ch.of_puts (S := fun k => k = q) hp rfl) (fun k hk => Or.inl hk) hq
theorem QT.go (h : QT w gr gb q c A l s a0 a1 a2 v3 v4 v5 v6 v7 x3 x4 x5 x6 x7 ok W) (hb : Below W.heap.size W W1) : QT w gr gb q c A l s a0 a1 a2 v3 v4 v5 v6 v7 x3 x4 x5 x6 x7 ok W1 := h.ch (S := fun _ => False) (Ch.of_below hb) (fun _ h => h.elim) (h.qr.go (hb.block q h.qr.lt))
theorem QT.far (h : QT w gr gb q c A l s a0 a1 a2 v3 v4 v5 v6 v7 x3 x4 x5 x6 x7 ok W) {g j : Nat} (hg : gb < g) (hn : ¬ ok g) (u : Value) : QT w gr gb q c A l s a0 a1 a2 v3 v4 v5 v6 v7 x3 x4 x5 x6 x7 ok (W.setCell ⟨g, j, none⟩ u) :=
 h.ch (Ch.set (S := fun k => k = g) W j u rfl) (fun k hk => Or.inr ⟨by omega, by rw [hk]; exact hn⟩) (h.qr.go (Below.heap_setCell W _ u q (by have := h.lo; show q ≠ g; omega)))
theorem QT.mono (h : QT w gr gb q c A l s a0 a1 a2 v3 v4 v5 v6 v7 x3 x4 x5 x6 x7 ok W) (hok : ∀ k, ok k → k < W.heap.size → ok' k) (hb : ∀ k, ok' k → gb < k) : QT w gr gb q c A l s a0 a1 a2 v3 v4 v5 v6 v7 x3 x4 x5 x6 x7 ok' W :=
 ⟨h.res, h.blk, h.qr, h.src, Kd.R_mono (Kd.R_bound h.o3) (fun k hk => hok k hk.1 hk.2.2.1), Kd.R_mono (Kd.R_bound h.o4) (fun k hk => hok k hk.1 hk.2.2.1), Kd.R_mono (Kd.R_bound h.o5) (fun k hk => hok k hk.1 hk.2.2.1), Kd.R_mono (Kd.R_bound h.o6) (fun k hk => hok k hk.1 hk.2.2.1), Kd.R_mono (Kd.R_bound h.o7) (fun k hk => hok k hk.1 hk.2.2.1), h.below, h.lo, hb⟩
theorem QT.set3 {x : List S93} (h : QT w gr gb q c A l s a0 a1 a2 v3 v4 v5 v6 v7 x3 x4 x5 x6 x7 ok W) (hg : W.grownBy W1 v3.ownBlock) (ho : Kd.R k93 93 W1 w.heap.size ok v x) : QT w gr gb q c A l s a0 a1 a2 v v4 v5 v6 v7 x x4 x5 x6 x7 ok (W1.setCell ⟨gb, 3, none⟩ v) := by
 have hlo := h.lo
 have hown : ∀ k, v3.ownBlock = some k → gb < k := fun k hk => h.okb k (h.o3.1 k hk)
 have hk1 : ∀ k, k ≤ gb → k < W.heap.size → W1.heap[k]? = W.heap[k]? := fun k hk hlt => hg.block k hlt (fun he => by have := hown k he.symm; omega)
 have hk : ∀ k, k ≠ gb → (W1.setCell ⟨gb, 3, none⟩ v).heap[k]? = W1.heap[k]? := fun k hk => Below.heap_setCell W1 _ v k hk
 exact ⟨(hk gr (by omega)).trans ((hk1 gr (by omega) (blk_lt h.res)).trans h.res), blk_put ((hk1 gb (Nat.le_refl _) (blk_lt h.blk)).trans h.blk) 3 v rfl, h.qr.go ((hk q (by omega)).trans (hk1 q (by omega) h.qr.lt)), h.src, Kd.R_far ho (fun k hk => by have := h.okb k hk; show k ≠ gb; omega) _, Kd.R_far (R_apart h.o4 h.o3 (by intro q hq; (have hq2 : q ∈ [95] := hq); simp at hq2; omega) hg) (fun k hk => by have := h.okb k hk; show k ≠ gb; omega) _, Kd.R_far (R_apart h.o5 h.o3 (by intro q hq; (have hq2 : q ∈ [97] := hq); simp at hq2; omega) hg) (fun k hk => by have := h.okb k hk; show k ≠ gb; omega) _, Kd.R_far (R_apart h.o6 h.o3 (by intro q hq; (have hq2 : q ∈ [100, 102] := hq); simp at hq2; omega) hg) (fun k hk => by have := h.okb k hk; show k ≠ gb; omega) _, Kd.R_far (R_apart h.o7 h.o3 (by intro q hq; (have hq2 : q ∈ [9] := hq); simp at hq2; omega) hg) (fun k hk => by have := h.okb k hk; show k ≠ gb; omega) _, below_set (Below.grown h.below hg h.below.size (fun k hk => by have := hown k hk; omega)) (by omega), h.lo, h.okb⟩
theorem QT.set4 {x : List S95} (h : QT w gr gb q c A l s a0 a1 a2 v3 v4 v5 v6 v7 x3 x4 x5 x6 x7 ok W) (hg : W.grownBy W1 v4.ownBlock) (ho : Kd.R k95 95 W1 w.heap.size ok v x) : QT w gr gb q c A l s a0 a1 a2 v3 v v5 v6 v7 x3 x x5 x6 x7 ok (W1.setCell ⟨gb, 4, none⟩ v) := by
 have hlo := h.lo
 have hown : ∀ k, v4.ownBlock = some k → gb < k := fun k hk => h.okb k (h.o4.1 k hk)
 have hk1 : ∀ k, k ≤ gb → k < W.heap.size → W1.heap[k]? = W.heap[k]? := fun k hk hlt => hg.block k hlt (fun he => by have := hown k he.symm; omega)
 have hk : ∀ k, k ≠ gb → (W1.setCell ⟨gb, 4, none⟩ v).heap[k]? = W1.heap[k]? := fun k hk => Below.heap_setCell W1 _ v k hk
 exact ⟨(hk gr (by omega)).trans ((hk1 gr (by omega) (blk_lt h.res)).trans h.res), blk_put ((hk1 gb (Nat.le_refl _) (blk_lt h.blk)).trans h.blk) 4 v rfl, h.qr.go ((hk q (by omega)).trans (hk1 q (by omega) h.qr.lt)), h.src, Kd.R_far (R_apart h.o3 h.o4 (by intro q hq; (have hq2 : q ∈ [93] := hq); simp at hq2; omega) hg) (fun k hk => by have := h.okb k hk; show k ≠ gb; omega) _, Kd.R_far ho (fun k hk => by have := h.okb k hk; show k ≠ gb; omega) _, Kd.R_far (R_apart h.o5 h.o4 (by intro q hq; (have hq2 : q ∈ [97] := hq); simp at hq2; omega) hg) (fun k hk => by have := h.okb k hk; show k ≠ gb; omega) _, Kd.R_far (R_apart h.o6 h.o4 (by intro q hq; (have hq2 : q ∈ [100, 102] := hq); simp at hq2; omega) hg) (fun k hk => by have := h.okb k hk; show k ≠ gb; omega) _, Kd.R_far (R_apart h.o7 h.o4 (by intro q hq; (have hq2 : q ∈ [9] := hq); simp at hq2; omega) hg) (fun k hk => by have := h.okb k hk; show k ≠ gb; omega) _, below_set (Below.grown h.below hg h.below.size (fun k hk => by have := hown k hk; omega)) (by omega), h.lo, h.okb⟩
theorem QT.set5 {x : List S97} (h : QT w gr gb q c A l s a0 a1 a2 v3 v4 v5 v6 v7 x3 x4 x5 x6 x7 ok W) (hg : W.grownBy W1 v5.ownBlock) (ho : Kd.R k97 97 W1 w.heap.size ok v x) : QT w gr gb q c A l s a0 a1 a2 v3 v4 v v6 v7 x3 x4 x x6 x7 ok (W1.setCell ⟨gb, 5, none⟩ v) := by
 have hlo := h.lo
 have hown : ∀ k, v5.ownBlock = some k → gb < k := fun k hk => h.okb k (h.o5.1 k hk)
 have hk1 : ∀ k, k ≤ gb → k < W.heap.size → W1.heap[k]? = W.heap[k]? := fun k hk hlt => hg.block k hlt (fun he => by have := hown k he.symm; omega)
 have hk : ∀ k, k ≠ gb → (W1.setCell ⟨gb, 5, none⟩ v).heap[k]? = W1.heap[k]? := fun k hk => Below.heap_setCell W1 _ v k hk
 exact ⟨(hk gr (by omega)).trans ((hk1 gr (by omega) (blk_lt h.res)).trans h.res), blk_put ((hk1 gb (Nat.le_refl _) (blk_lt h.blk)).trans h.blk) 5 v rfl, h.qr.go ((hk q (by omega)).trans (hk1 q (by omega) h.qr.lt)), h.src, Kd.R_far (R_apart h.o3 h.o5 (by intro q hq; (have hq2 : q ∈ [93] := hq); simp at hq2; omega) hg) (fun k hk => by have := h.okb k hk; show k ≠ gb; omega) _, Kd.R_far (R_apart h.o4 h.o5 (by intro q hq; (have hq2 : q ∈ [95] := hq); simp at hq2; omega) hg) (fun k hk => by have := h.okb k hk; show k ≠ gb; omega) _, Kd.R_far ho (fun k hk => by have := h.okb k hk; show k ≠ gb; omega) _, Kd.R_far (R_apart h.o6 h.o5 (by intro q hq; (have hq2 : q ∈ [100, 102] := hq); simp at hq2; omega) hg) (fun k hk => by have := h.okb k hk; show k ≠ gb; omega) _, Kd.R_far (R_apart h.o7 h.o5 (by intro q hq; (have hq2 : q ∈ [9] := hq); simp at hq2; omega) hg) (fun k hk => by have := h.okb k hk; show k ≠ gb; omega) _, below_set (Below.grown h.below hg h.below.size (fun k hk => by have := hown k hk; omega)) (by omega), h.lo, h.okb⟩
theorem QT.set6 {x : List S100} (h : QT w gr gb q c A l s a0 a1 a2 v3 v4 v5 v6 v7 x3 x4 x5 x6 x7 ok W) (hg : W.grownBy W1 v6.ownBlock) (ho : Kd.R k100 100 W1 w.heap.size ok v x) : QT w gr gb q c A l s a0 a1 a2 v3 v4 v5 v v7 x3 x4 x5 x x7 ok (W1.setCell ⟨gb, 6, none⟩ v) := by
 have hlo := h.lo
 have hown : ∀ k, v6.ownBlock = some k → gb < k := fun k hk => h.okb k (h.o6.1 k hk)
 have hk1 : ∀ k, k ≤ gb → k < W.heap.size → W1.heap[k]? = W.heap[k]? := fun k hk hlt => hg.block k hlt (fun he => by have := hown k he.symm; omega)
 have hk : ∀ k, k ≠ gb → (W1.setCell ⟨gb, 6, none⟩ v).heap[k]? = W1.heap[k]? := fun k hk => Below.heap_setCell W1 _ v k hk
 exact ⟨(hk gr (by omega)).trans ((hk1 gr (by omega) (blk_lt h.res)).trans h.res), blk_put ((hk1 gb (Nat.le_refl _) (blk_lt h.blk)).trans h.blk) 6 v rfl, h.qr.go ((hk q (by omega)).trans (hk1 q (by omega) h.qr.lt)), h.src, Kd.R_far (R_apart h.o3 h.o6 (by intro q hq; (have hq2 : q ∈ [93] := hq); simp at hq2; omega) hg) (fun k hk => by have := h.okb k hk; show k ≠ gb; omega) _, Kd.R_far (R_apart h.o4 h.o6 (by intro q hq; (have hq2 : q ∈ [95] := hq); simp at hq2; omega) hg) (fun k hk => by have := h.okb k hk; show k ≠ gb; omega) _, Kd.R_far (R_apart h.o5 h.o6 (by intro q hq; (have hq2 : q ∈ [97] := hq); simp at hq2; omega) hg) (fun k hk => by have := h.okb k hk; show k ≠ gb; omega) _, Kd.R_far ho (fun k hk => by have := h.okb k hk; show k ≠ gb; omega) _, Kd.R_far (R_apart h.o7 h.o6 (by intro q hq; (have hq2 : q ∈ [9] := hq); simp at hq2; omega) hg) (fun k hk => by have := h.okb k hk; show k ≠ gb; omega) _, below_set (Below.grown h.below hg h.below.size (fun k hk => by have := hown k hk; omega)) (by omega), h.lo, h.okb⟩
theorem QT.set7 {x : List ByteArray} (h : QT w gr gb q c A l s a0 a1 a2 v3 v4 v5 v6 v7 x3 x4 x5 x6 x7 ok W) (hg : W.grownBy W1 v7.ownBlock) (ho : Kd.R Kd.string 9 W1 w.heap.size ok v x) : QT w gr gb q c A l s a0 a1 a2 v3 v4 v5 v6 v x3 x4 x5 x6 x ok (W1.setCell ⟨gb, 7, none⟩ v) := by
 have hlo := h.lo
 have hown : ∀ k, v7.ownBlock = some k → gb < k := fun k hk => h.okb k (h.o7.1 k hk)
 have hk1 : ∀ k, k ≤ gb → k < W.heap.size → W1.heap[k]? = W.heap[k]? := fun k hk hlt => hg.block k hlt (fun he => by have := hown k he.symm; omega)
 have hk : ∀ k, k ≠ gb → (W1.setCell ⟨gb, 7, none⟩ v).heap[k]? = W1.heap[k]? := fun k hk => Below.heap_setCell W1 _ v k hk
 exact ⟨(hk gr (by omega)).trans ((hk1 gr (by omega) (blk_lt h.res)).trans h.res), blk_put ((hk1 gb (Nat.le_refl _) (blk_lt h.blk)).trans h.blk) 7 v rfl, h.qr.go ((hk q (by omega)).trans (hk1 q (by omega) h.qr.lt)), h.src, Kd.R_far (R_apart h.o3 h.o7 (by intro q hq; (have hq2 : q ∈ [93] := hq); simp at hq2; omega) hg) (fun k hk => by have := h.okb k hk; show k ≠ gb; omega) _, Kd.R_far (R_apart h.o4 h.o7 (by intro q hq; (have hq2 : q ∈ [95] := hq); simp at hq2; omega) hg) (fun k hk => by have := h.okb k hk; show k ≠ gb; omega) _, Kd.R_far (R_apart h.o5 h.o7 (by intro q hq; (have hq2 : q ∈ [97] := hq); simp at hq2; omega) hg) (fun k hk => by have := h.okb k hk; show k ≠ gb; omega) _, Kd.R_far (R_apart h.o6 h.o7 (by intro q hq; (have hq2 : q ∈ [100, 102] := hq); simp at hq2; omega) hg) (fun k hk => by have := h.okb k hk; show k ≠ gb; omega) _, Kd.R_far ho (fun k hk => by have := h.okb k hk; show k ≠ gb; omega) _, below_set (Below.grown h.below hg h.below.size (fun k hk => by have := hown k hk; omega)) (by omega), h.lo, h.okb⟩
theorem QT.int0 {b : Int} (h : QT w gr gb q c A l s a0 a1 a2 v3 v4 v5 v6 v7 x3 x4 x5 x6 x7 ok W) : QT w gr gb q c A l s b a1 a2 v3 v4 v5 v6 v7 x3 x4 x5 x6 x7 ok (W.setCell ⟨gb, 0, none⟩ (.int .i64 b)) := by
 have hlo := h.lo
 have hk : ∀ k, k ≠ gb → (W.setCell ⟨gb, 0, none⟩ (.int .i64 b)).heap[k]? = W.heap[k]? := fun k hk => Below.heap_setCell W _ _ k hk
 exact ⟨(hk gr (by omega)).trans h.res, blk_put h.blk 0 _ rfl, h.qr.go (hk q (by omega)), h.src, Kd.R_far h.o3 (fun k hk => by have := h.okb k hk; show k ≠ gb; omega) _, Kd.R_far h.o4 (fun k hk => by have := h.okb k hk; show k ≠ gb; omega) _, Kd.R_far h.o5 (fun k hk => by have := h.okb k hk; show k ≠ gb; omega) _, Kd.R_far h.o6 (fun k hk => by have := h.okb k hk; show k ≠ gb; omega) _, Kd.R_far h.o7 (fun k hk => by have := h.okb k hk; show k ≠ gb; omega) _, below_set h.below (by omega), h.lo, h.okb⟩
theorem QT.int1 {b : Int} (h : QT w gr gb q c A l s a0 a1 a2 v3 v4 v5 v6 v7 x3 x4 x5 x6 x7 ok W) : QT w gr gb q c A l s a0 b a2 v3 v4 v5 v6 v7 x3 x4 x5 x6 x7 ok (W.setCell ⟨gb, 1, none⟩ (.int .i64 b)) := by
 have hlo := h.lo
 have hk : ∀ k, k ≠ gb → (W.setCell ⟨gb, 1, none⟩ (.int .i64 b)).heap[k]? = W.heap[k]? := fun k hk => Below.heap_setCell W _ _ k hk
 exact ⟨(hk gr (by omega)).trans h.res, blk_put h.blk 1 _ rfl, h.qr.go (hk q (by omega)), h.src, Kd.R_far h.o3 (fun k hk => by have := h.okb k hk; show k ≠ gb; omega) _, Kd.R_far h.o4 (fun k hk => by have := h.okb k hk; show k ≠ gb; omega) _, Kd.R_far h.o5 (fun k hk => by have := h.okb k hk; show k ≠ gb; omega) _, Kd.R_far h.o6 (fun k hk => by have := h.okb k hk; show k ≠ gb; omega) _, Kd.R_far h.o7 (fun k hk => by have := h.okb k hk; show k ≠ gb; omega) _, below_set h.below (by omega), h.lo, h.okb⟩
theorem QT.int2 {b : Int} (h : QT w gr gb q c A l s a0 a1 a2 v3 v4 v5 v6 v7 x3 x4 x5 x6 x7 ok W) : QT w gr gb q c A l s a0 a1 b v3 v4 v5 v6 v7 x3 x4 x5 x6 x7 ok (W.setCell ⟨gb, 2, none⟩ (.int .i64 b)) := by
 have hlo := h.lo
 have hk : ∀ k, k ≠ gb → (W.setCell ⟨gb, 2, none⟩ (.int .i64 b)).heap[k]? = W.heap[k]? := fun k hk => Below.heap_setCell W _ _ k hk
 exact ⟨(hk gr (by omega)).trans h.res, blk_put h.blk 2 _ rfl, h.qr.go (hk q (by omega)), h.src, Kd.R_far h.o3 (fun k hk => by have := h.okb k hk; show k ≠ gb; omega) _, Kd.R_far h.o4 (fun k hk => by have := h.okb k hk; show k ≠ gb; omega) _, Kd.R_far h.o5 (fun k hk => by have := h.okb k hk; show k ≠ gb; omega) _, Kd.R_far h.o6 (fun k hk => by have := h.okb k hk; show k ≠ gb; omega) _, Kd.R_far h.o7 (fun k hk => by have := h.okb k hk; show k ≠ gb; omega) _, below_set h.below (by omega), h.lo, h.okb⟩
end
theorem QT.start {w : World} {A : Option Addr} {c : Nat} {l : List Int} (hs : Src A c l w) : QT w w.heap.size (w.heap.size + 1 + 1) (w.heap.size + 1) c A l (l, false) 0 0 0 (.slice none 0 0) (.slice none 0 0) (.slice none 0 0) (.slice none 0 0) (.slice none 0 0) [] [] [] [] [] (fun k => w.heap.size + 1 + 1 < k) (((w.alloc (.cells #[.int .i64 0, .int .i64 0, .int .i64 0, .slice none 0 0, .slice none 0 0, .slice none 0 0, .slice none 0 0, .slice none 0 0] 67 (0, 0))).alloc (.cells #[.slice A l.length c, .int .i64 0] 125 (0, 0))).alloc (.cells #[.int .i64 0, .int .i64 0, .int .i64 0, .slice none 0 0, .slice none 0 0, .slice none 0 0, .slice none 0 0, .slice none 0 0] 67 (0, 0))) := by
 obtain ⟨Wa, ha⟩ : ∃ Wa, w.alloc (.cells #[.int .i64 0, .int .i64 0, .int .i64 0, .slice none 0 0, .slice none 0 0, .slice none 0 0, .slice none 0 0, .slice none 0 0] 67 (0, 0)) = Wa := ⟨_, rfl⟩
 have ba : Below w.heap.size w Wa := by rw [← ha]; exact below_alloc (Below.refl _ _) _
 have na : Wa.heap[w.heap.size]? = some (.cells #[.int .i64 0, .int .i64 0, .int .i64 0, .slice none 0 0, .slice none 0 0, .slice none 0 0, .slice none 0 0, .slice none 0 0] 67 (0, 0)) := by rw [← ha]; exact heap_alloc_new w _
 have sa : Wa.heap.size = w.heap.size + 1 := by rw [← ha]; simp
 rw [ha]
 obtain ⟨Wb, hb⟩ : ∃ Wb, Wa.alloc (.cells #[.slice A l.length c, .int .i64 0] 125 (0, 0)) = Wb := ⟨_, rfl⟩
 have bb : Below Wa.heap.size Wa Wb := by rw [← hb]; exact below_alloc (Below.refl _ _) _
 have nb : Wb.heap[w.heap.size + 1]? = some (.cells #[.slice A l.length c, .int .i64 0] 125 (0, 0)) := by rw [← hb, ← sa]; exact heap_alloc_new Wa _
 have sb : Wb.heap.size = w.heap.size + 1 + 1 := by rw [← hb]; simp; omega
 rw [hb]
 have Ac : Below Wb.heap.size Wb (Wb.alloc (.cells #[.int .i64 0, .int .i64 0, .int .i64 0, .slice none 0 0, .slice none 0 0, .slice none 0 0, .slice none 0 0, .slice none 0 0] 67 (0, 0))) := below_alloc (Below.refl _ _) _
 exact ⟨blk_below (blk_below na bb) Ac, by rw [← sb]; exact heap_alloc_new Wb _, ⟨0, .inr ⟨0, rfl, by omega, by simp⟩, blk_below nb Ac⟩, hs, Kd.R_nil _ _ _ _ _, Kd.R_nil _ _ _ _ _, Kd.R_nil _ _ _ _ _, Kd.R_nil _ _ _ _ _, Kd.R_nil _ _ _ _ _, below_step (below_step ba bb) Ac, ⟨Nat.le_refl _, Nat.lt_succ_self _, Nat.lt_succ_self _⟩, fun k hk => hk⟩
theorem put12 {W : World} {g : Nat} {x0 x1 x2 x3 x4 x5 x6 x7 x8 x9 x10 x11 : Value} (h : W.heap[g]? = some (.cells #[x0, x1, x2, x3, x4, x5, x6, x7, x8, x9, x10, x11] 100 (0, 0))) (v0 v1 v2 v3 v4 v5 v6 v7 v8 v9 v10 v11 : Value) :
  ((((((((((((W.setCell ⟨g, 0, none⟩ v0).setCell ⟨g, 1, none⟩ v1).setCell ⟨g, 2, none⟩ v2).setCell ⟨g, 3, none⟩ v3).setCell ⟨g, 4, none⟩ v4).setCell ⟨g, 5, none⟩ v5).setCell ⟨g, 6, none⟩ v6).setCell ⟨g, 7, none⟩ v7).setCell ⟨g, 8, none⟩ v8).setCell ⟨g, 9, none⟩ v9).setCell ⟨g, 10, none⟩ v10).setCell ⟨g, 11, none⟩ v11).heap[g]? = some (.cells #[v0, v1, v2, v3, v4, v5, v6, v7, v8, v9, v10, v11] 100 (0, 0)) := by
 have h0 : (W.setCell ⟨g, 0, none⟩ v0).heap[g]? = some (.cells #[v0, x1, x2, x3, x4, x5, x6, x7, x8, x9, x10, x11] 100 (0, 0)) := blk_put h 0 v0 (by simp)
 generalize W.setCell ⟨g, 0, none⟩ v0 = W0 at h0 ⊢
 have h1 : (W0.setCell ⟨g, 1, none⟩ v1).heap[g]? = some (.cells #[v0, v1, x2, x3, x4, x5, x6, x7, x8, x9, x10, x11] 100 (0, 0)) := blk_put h0 1 v1 (by simp)
 generalize W0.setCell ⟨g, 1, none⟩ v1 = W1 at h1 ⊢
 have h2 : (W1.setCell ⟨g, 2, none⟩ v2).heap[g]? = some (.cells #[v0, v1, v2, x3, x4, x5, x6, x7, x8, x9, x10, x11] 100 (0, 0)) := blk_put h1 2 v2 (by simp)
 generalize W1.setCell ⟨g, 2, none⟩ v2 = W2 at h2 ⊢
 have h3 : (W2.setCell ⟨g, 3, none⟩ v3).heap[g]? = some (.cells #[v0, v1, v2, v3, x4, x5, x6, x7, x8, x9, x10, x11] 100 (0, 0)) := blk_put h2 3 v3 (by simp)
 generalize W2.setCell ⟨g, 3, none⟩ v3 = W3 at h3 ⊢
 have h4 : (W3.setCell ⟨g, 4, none⟩ v4).heap[g]? = some (.cells #[v0, v1, v2, v3, v4, x5, x6, x7, x8, x9, x10, x11] 100 (0, 0)) := blk_put h3 4 v4 (by simp)
 generalize W3.setCell ⟨g, 4, none⟩ v4 = W4 at h4 ⊢
 have h5 : (W4.setCell ⟨g, 5, none⟩ v5).heap[g]? = some (.cells #[v0, v1, v2, v3, v4, v5, x6, x7, x8, x9, x10, x11] 100 (0, 0)) := blk_put h4 5 v5 (by simp)
 generalize W4.setCell ⟨g, 5, none⟩ v5 = W5 at h5 ⊢
 have h6 : (W5.setCell ⟨g, 6, none⟩ v6).heap[g]? = some (.cells #[v0, v1, v2, v3, v4, v5, v6, x7, x8, x9, x10, x11] 100 (0, 0)) := blk_put h5 6 v6 (by simp)
 generalize W5.setCell ⟨g, 6, none⟩ v6 = W6 at h6 ⊢
 have h7 : (W6.setCell ⟨g, 7, none⟩ v7).heap[g]? = some (.cells #[v0, v1, v2, v3, v4, v5, v6, v7, x8, x9, x10, x11] 100 (0, 0)) := blk_put h6 7 v7 (by simp)
 generalize W6.setCell ⟨g, 7, none⟩ v7 = W7 at h7 ⊢
 have h8 : (W7.setCell ⟨g, 8, none⟩ v8).heap[g]? = some (.cells #[v0, v1, v2, v3, v4, v5, v6, v7, v8, x9, x10, x11] 100 (0, 0)) := blk_put h7 8 v8 (by simp)
 generalize W7.setCell ⟨g, 8, none⟩ v8 = W8 at h8 ⊢
 have h9 : (W8.setCell ⟨g, 9, none⟩ v9).heap[g]? = some (.cells #[v0, v1, v2, v3, v4, v5, v6, v7, v8, v9, x10, x11] 100 (0, 0)) := blk_put h8 9 v9 (by simp)
 generalize W8.setCell ⟨g, 9, none⟩ v9 = W9 at h9 ⊢
 have h10 : (W9.setCell ⟨g, 10, none⟩ v10).heap[g]? = some (.cells #[v0, v1, v2, v3, v4, v5, v6, v7, v8, v9, v10, x11] 100 (0, 0)) := blk_put h9 10 v10 (by simp)
 generalize W9.setCell ⟨g, 10, none⟩ v10 = W10 at h10 ⊢
 exact blk_put h10 11 v11 (by simp)
theorem puts12 (W : World) (g : Nat) (v0 v1 v2 v3 v4 v5 v6 v7 v8 v9 v10 v11 : Value) :
  Puts g W ((((((((((((W.setCell ⟨g, 0, none⟩ v0).setCell ⟨g, 1, none⟩ v1).setCell ⟨g, 2, none⟩ v2).setCell ⟨g, 3, none⟩ v3).setCell ⟨g, 4, none⟩ v4).setCell ⟨g, 5, none⟩ v5).setCell ⟨g, 6, none⟩ v6).setCell ⟨g, 7, none⟩ v7).setCell ⟨g, 8, none⟩ v8).setCell ⟨g, 9, none⟩ v9).setCell ⟨g, 10, none⟩ v10).setCell ⟨g, 11, none⟩ v11) := by
 have h := (Puts.refl g W).set 0 v0
 generalize W.setCell ⟨g, 0, none⟩ v0 = W0 at h ⊢
 replace h := h.set 1 v1
 generalize W0.setCell ⟨g, 1, none⟩ v1 = W1 at h ⊢
 replace h := h.set 2 v2
 generalize W1.setCell ⟨g, 2, none⟩ v2 = W2 at h ⊢
 replace h := h.set 3 v3
 generalize W2.setCell ⟨g, 3, none⟩ v3 = W3 at h ⊢
 replace h := h.set 4 v4
 generalize W3.setCell ⟨g, 4, none⟩ v4 = W4 at h ⊢
 replace h := h.set 5 v5
 generalize W4.setCell ⟨g, 5, none⟩ v5 = W5 at h ⊢
 replace h := h.set 6 v6
 generalize W5.setCell ⟨g, 6, none⟩ v6 = W6 at h ⊢
 replace h := h.set 7 v7
 generalize W6.setCell ⟨g, 7, none⟩ v7 = W7 at h ⊢
 replace h := h.set 8 v8
 generalize W7.setCell ⟨g, 8, none⟩ v8 = W8 at h ⊢
 replace h := h.set 9 v9
 generalize W8.setCell ⟨g, 9, none⟩ v9 = W9 at h ⊢
 replace h := h.set 10 v10
 generalize W9.setCell ⟨g, 10, none⟩ v10 = W10 at h ⊢
 exact h.set 11 v11
theorem R_puts {α : Type} {d : Kd α} {e b q t : Nat} {ok : Nat → Prop} {v : Value} {xs : List α} {W W1 : World} {cs : Array Value} (h : d.R e W b ok v xs) (hq : W.heap[q]? = some (.cells cs t (0, 0))) (hE : ∀ x, x ∈ e :: d.E → x ≠ t) (hp : Puts q W W1) : d.R e W1 b ok v xs :=
 Kd.R_mono (Kd.R_step (Kd.R_types h hq hE) (fun k hk _ => (hp 0 (Nat.zero_le _)).2.2 k hk.2)) (fun k hk => hk.1)
section
variable {w : World} {gr gb q c : Nat} {A : Option Addr} {l : List Int} {s s' : List Int × Bool} {a0 a1 a2 : Int} {v3 v4 v5 v6 v7 v : Value} {x3 : List S93} {x4 : List S95} {x5 : List S97} {x6 : List S100} {x7 : List ByteArray} {ok ok' : Nat → Prop} {W W1 W2 : World} {S : Nat → Prop}
theorem QT.rows (h : QT w gr gb q c A l s a0 a1 a2 v3 v4 v5 v6 v7 x3 x4 x5 x6 x7 ok W) {b : Nat} {okv : Nat → Prop} {v : Value} {ys : List Int} (hv : Kd.R (Kd.int .i64) 3 W b okv v ys) (hg : W.grownBy W1 v.ownBlock) (hb : ∀ k, v.ownBlock = some k → w.heap.size ≤ k) : QT w gr gb q c A l s a0 a1 a2 v3 v4 v5 v6 v7 x3 x4 x5 x6 x7 ok W1 := by
 obtain ⟨at_, h1, h2⟩ := h.qr.ex
 refine ⟨blk_grown h.res hg (Kd.R_ne hv h.res (by omega)), blk_grown h.blk hg (Kd.R_ne hv h.blk (by omega)), ⟨at_, h1, blk_grown h2 hg (Kd.R_ne hv h2 (by omega))⟩, h.src, R_apart h.o3 hv (by intro q hq; (have hq2 : q ∈ [93] := hq); simp at hq2; omega) hg, R_apart h.o4 hv (by intro q hq; (have hq2 : q ∈ [95] := hq); simp at hq2; omega) hg, R_apart h.o5 hv (by intro q hq; (have hq2 : q ∈ [97] := hq); simp at hq2; omega) hg, R_apart h.o6 hv (by intro q hq; (have hq2 : q ∈ [100, 102] := hq); simp at hq2; omega) hg, R_apart h.o7 hv (by intro q hq; (have hq2 : q ∈ [9] := hq); simp at hq2; omega) hg, Below.grown h.below hg h.below.size hb, h.lo, h.okb⟩
end
def RefK.T49 : Bool × List (List Nat × List Nat) := (true, [([], []), ([0], [0]), ([], []), ([2], [2]), ([3], [3]), ([1, 4, 3], [1, 4]), ([0, 1, 2, 3, 4, 5], []), ([6, 5, 5, 0, 1, 2, 3, 4, 5], [5, 6])])
def RefK.B49 : List Nat := [0, 1, 0, 4, 12, 31, 63, 127]
theorem RefK.tab49 : rtab .any (opsOf Try.f37 49) = RefK.T49 := by kernel_rfl
theorem RefK.bits49 : waitsOk RefK.T49.2 RefK.B49 = true := by kernel_rfl

def RefJ.T38 : Bool × List (List Nat × List Nat) := (true, [([], []), ([0], [0]), ([1], [1]), ([], []), ([3], [3]), ([4], [4]), ([], []), ([6], [6]), ([7], [7]), ([], []), ([9], [9]), ([10], [10]), ([], []), ([12], [12]), ([13], [13]), ([], []), ([15], [15]), ([16], [16]), ([], []), ([18], [18]), ([19], [19]), ([], []), ([21], [21]), ([22], [22]), ([], []), ([24], [24]), ([25], [25]), ([], []), ([27], [27]), ([28], [28]), ([], []), ([30], [30]), ([31], [31]), ([2, 5, 8, 11, 14, 17, 20, 23, 26, 29, 32], [2, 5, 8, 11, 14, 17, 20, 23, 26, 29, 32]), ([], []), ([34, 33, 0, 1, 2, 3, 4, 5, 6, 7, 8, 9, 10, 11, 12, 13, 14, 15, 16, 17, 18, 19, 20, 21, 22, 23, 24, 25, 26, 27, 28, 29, 30, 31, 32, 33, 34], [33, 34])])
def RefJ.B38 : List Nat := [0, 1, 3, 0, 8, 24, 0, 64, 192, 0, 512, 1536, 0, 4096, 12288, 0, 32768, 98304, 0, 262144, 786432, 0, 2097152, 6291456, 0, 16777216, 50331648, 0, 134217728, 402653184, 0, 1073741824, 3221225472, 8589934591, 0, 34359738367]
theorem RefJ.tab38 : rtab .any (opsOf Try.f37 38) = RefJ.T38 := by kernel_rfl
theorem RefJ.bits38 : waitsOk RefJ.T38.2 RefJ.B38 = true := by kernel_rfl

def qF (l : List Int) : List S93 × RS := qList dFund 8 ((rInts 3 (l, false)).2, false)
def qA (l : List Int) : List S95 × RS := qList dAlloc 16 (qF l).2
def qR (l : List Int) : List S97 × RS := qList dRate 16 (qA l).2
def qJ (l : List Int) : List S100 × RS := qList qJob 16 (qR l).2
def qK (l : List Int) : List ByteArray × RS := qList dKey 8 (qJ l).2
def refF (l : List Int) : SnapT := if rEnd (qK l).2.1 = true then ((rInts 3 (l, false)).1.getD 0 0, (rInts 3 (l, false)).1.getD 1 0, (rInts 3 (l, false)).1.getD 2 0, (qF l).1, (qA l).1, (qR l).1, (qJ l).1, (qK l).1, 0) else snapBad
set_option maxHeartbeats 8000000 in
set_option maxRecDepth 100000 in
theorem ref_Dec.at_ (A : Option Addr) (c : Nat) (l : List Int) (w : World) (hsrc : Src A c l w) (r1 r2 r3 : Int) (r4 : List S93) (r5 : List S95) (r6 : List S97) (r7 : List S100) (r8 : List ByteArray) (r9 : Int) (h : refF l = (r1, r2, r3, r4, r5, r6, r7, r8, r9)) :
  Calls Try.prog 37 #[.slice A l.length c] w fun e w' => ∃ v3_ v4_ v5_ v6_ v7_ : Value, e = .returned (.tuple #[.agg #[.int .i64 r1, .int .i64 r2, .int .i64 r3, v3_, v4_, v5_, v6_, v7_], .int .i64 r9]) ∧ Kd.R k93 93 w' w.heap.size (fun _ => True) v3_ r4 ∧ Kd.R k95 95 w' w.heap.size (fun _ => True) v4_ r5 ∧ Kd.R k97 97 w' w.heap.size (fun _ => True) v5_ r6 ∧ Kd.R k100 100 w' w.heap.size (fun _ => True) v6_ r7 ∧ Kd.R Kd.string 9 w' w.heap.size (fun _ => True) v7_ r8 ∧ Below w.heap.size w w' := by
 have HH := Aside0.mk h
 have HD := Aside0.mk (QT.start hsrc)
 obtain ⟨s1, hs1⟩ : ∃ s1, rInt (l, false) = s1 := ⟨_, rfl⟩
 obtain ⟨s2, hs2⟩ : ∃ s2, rInt s1.2 = s2 := ⟨_, rfl⟩
 obtain ⟨s3, hs3⟩ : ∃ s3, rInt s2.2 = s3 := ⟨_, rfl⟩
 have H1 := Aside0.mk hs1
 have H2 := Aside0.mk hs2
 have H3 := Aside0.mk hs3
 clear h; clear hsrc; clear hs1; clear hs2; clear hs3
 go_enter Try.func37, Try.ntmps37
 go_upto_region 3 with (fail)
 obtain ⟨W0, hW0⟩ : ∃ W, (((w.alloc (.cells #[.int .i64 0, .int .i64 0, .int .i64 0, .slice none 0 0, .slice none 0 0, .slice none 0 0, .slice none 0 0, .slice none 0 0] 67 (0, 0))).alloc (.cells #[.slice A l.length c, .int .i64 0] 125 (0, 0))).alloc (.cells #[.int .i64 0, .int .i64 0, .int .i64 0, .slice none 0 0, .slice none 0 0, .slice none 0 0, .slice none 0 0, .slice none 0 0] 67 (0, 0))) = W := ⟨_, rfl⟩
 rw [hW0] at HD ⊢
 clear hW0
 generalize w.heap.size + 1 + 1 = gb at HD ⊢
 generalize w.heap.size + 1 = q at HD ⊢
 have HSR := Aside0.mk (HD.out.src.at_ HD.out.below)
 go_upto_region 4 with (first | (go_at_call 63; (with_reducible refine (num_q (l, false) _ HSR.out HD.out.qr).mono ?_); rintro e wi0 ⟨rfl, hr, hp⟩; rw [H1.out] at hr ⊢; have n_ := Aside0.mk (HD.out.puts hr hp); clear HD HSR hr hp; have HD := n_; clear n_; have hgz : World.cell? wi0 ⟨gb, 0, none⟩ = some (.int .i64 0) := (blk_cell HD.out.blk 0).trans rfl; have hgf := blk_frozen HD.out.blk 0))
 have n_ := Aside0.mk (HD.out.int0 (b := s1.1))
 clear HD; clear hgz; clear hgf
 have HD := n_
 clear n_
 generalize World.setCell wi0 _ _ = Wi0 at HD ⊢
 have HSR := Aside0.mk (HD.out.src.at_ HD.out.below)
 go_upto_region 5 with (first | (go_at_call 63; (with_reducible refine (num_q s1.2 _ HSR.out HD.out.qr).mono ?_); rintro e wi1 ⟨rfl, hr, hp⟩; rw [H2.out] at hr ⊢; have n_ := Aside0.mk (HD.out.puts hr hp); clear HD HSR hr hp; have HD := n_; clear n_; have hgz : World.cell? wi1 ⟨gb, 1, none⟩ = some (.int .i64 0) := (blk_cell HD.out.blk 1).trans rfl; have hgf := blk_frozen HD.out.blk 1))
 have n_ := Aside0.mk (HD.out.int1 (b := s2.1))
 clear HD; clear hgz; clear hgf
 have HD := n_
 clear n_
 generalize World.setCell wi1 _ _ = Wi1 at HD ⊢
 have HSR := Aside0.mk (HD.out.src.at_ HD.out.below)
 go_upto_region 6 with (first | (go_at_call 63; (with_reducible refine (num_q s2.2 _ HSR.out HD.out.qr).mono ?_); rintro e wi2 ⟨rfl, hr, hp⟩; rw [H3.out] at hr ⊢; have n_ := Aside0.mk (HD.out.puts hr hp); clear HD HSR hr hp; have HD := n_; clear n_; have hgz : World.cell? wi2 ⟨gb, 2, none⟩ = some (.int .i64 0) := (blk_cell HD.out.blk 2).trans rfl; have hgf := blk_frozen HD.out.blk 2))
 have n_ := Aside0.mk (HD.out.int2 (b := s3.1))
 clear HD; clear hgz; clear hgf
 have HD := n_
 clear n_
 generalize World.setCell wi2 _ _ = Wi2 at HD ⊢
 obtain ⟨mF, h_mF⟩ : ∃ m, rMany 8 s3.2 = m := ⟨_, rfl⟩
 have HM_mF := Aside0.mk h_mF
 have HN_mF : Aside0 (0 ≤ mF.1 ∧ mF.1 ≤ 8) := ⟨by rw [← h_mF]; unfold rMany; split; (omega); (exact ⟨Int.le_refl _, (show (0 : Int) ≤ 8 by decide)⟩)⟩
 obtain ⟨TF, h_TF⟩ : ∃ T, rLoop dFund mF.1.toNat (mF.2, false) [] = T := ⟨_, rfl⟩
 have HT := Aside0.mk h_TF
 have HT_TF := Aside0.mk h_TF
 clear h_mF; clear h_TF
 have HSR := Aside0.mk (HD.out.src.at_ HD.out.below)
 go_wp2_with (first | (go_at_call 64; (with_reducible refine (many_q 8 s3.2 _ HSR.out HD.out.qr).mono ?_); rintro e wm ⟨rfl, hr, hp⟩; rw [HM_mF.out] at hr ⊢; have n_ := Aside0.mk (HD.out.puts hr hp); clear HD HSR hr hp; have HD := n_; clear n_))
 go_loopg [6] mF.1.toNat (fun kq v6_ w' => ∃ (y : Int) (v3 : Value) (x3 : List S93) (s : List Int × Bool), v6_ = .int .i64 y ∧ Aside0 (0 ≤ y ∧ y.toNat = kq ∧ x3.length + kq ≤ 8) ∧ Aside0 (rLoop dFund kq (s, false) x3 = TF) ∧ Aside0 (QT w w.heap.size gb q c A l s s1.1 s2.1 s3.1 v3 (.slice none 0 0) (.slice none 0 0) (.slice none 0 0) (.slice none 0 0) x3 [] [] [] [] (fun k => gb < k) w'))
 case atStart => exact ⟨_, _, [], _, rfl, ⟨HN_mF.out.1, rfl, by have := HN_mF.out; simp; omega⟩, HT, HD⟩
 case round =>
  clear HD; clear HT
  obtain ⟨y3, v3, x3, s, rfl, HI3, HT, HD⟩ := hrel
  by_cases d3 : 0 < y3
  ·have d3b : decide (0 < y3) = true := decide_eq_true d3
   obtain ⟨k1, rfl⟩ : ∃ k1, gk = k1 + 1 := ⟨gk - 1, by have := HI3.out; omega⟩
   have ew : wrap64 (y3 - 1) = y3 - 1 := by have := HI3.out; unfold wrap64; omega
   have HSR := Aside0.mk (HD.out.src.at_ HD.out.below)
   obtain ⟨st0, h_st0⟩ : ∃ t, rText s 16 = t := ⟨_, rfl⟩
   have H_st0 := Aside0.mk h_st0
   obtain ⟨st1, h_st1⟩ : ∃ t, rInt st0.2 = t := ⟨_, rfl⟩
   have H_st1 := Aside0.mk h_st1
   obtain ⟨st2, h_st2⟩ : ∃ t, rInt st1.2 = t := ⟨_, rfl⟩
   have H_st2 := Aside0.mk h_st2
   obtain ⟨x, hx⟩ : ∃ x : S93, x = ⟨strOfNums st0.1, st1.1, st2.1⟩ := ⟨_, rfl⟩
   have hdec : dFund (s, false) = (x, (st2.2, false)) := by rw [hx]; unfold dFund; simp only [rInts, h_st0, h_st1, h_st2]; rfl
   have HT2 : Aside0 (rLoop dFund k1 (st2.2, false) (x3 ++ [x]) = TF) := ⟨by have := HT.out; rw [rLoop, hdec] at this; exact this⟩
   have HOL : Aside0 (x3.length ≤ 16) := ⟨by have := HI3.out; omega⟩
   have HXE := Aside0.mk hx
   clear d3; clear HT; clear hdec; clear hx; clear h_st0; clear h_st1; clear h_st2
   go_upto_region 10 with (first | (go_at_call 65; (with_reducible refine (word_q s _ HSR.out HD.out.qr).mono ?_); rintro e wa ⟨rfl, hr, hp⟩; rw [H_st0.out] at hr ⊢; have n_ := Aside0.mk (HD.out.puts hr hp); clear HD HSR hr hp; have HD := n_; clear n_))
   have HX : Aside0 ((World.alloc wa (.cells #[.string (strOfNums st0.1), .int .i64 0, .int .i64 0] 93 (0, 0))).heap[wa.heap.size]? = some (.cells #[.string (strOfNums st0.1), .int .i64 0, .int .i64 0] 93 (0, 0))) := ⟨heap_alloc_new wa _⟩
   have HGX := Aside0.mk (blk_lt HD.out.blk)
   have n_ := Aside0.mk ((HD.out.mono (ok' := fun k => gb < k ∧ k ≠ wa.heap.size) (fun k hk hlt => ⟨hk, by omega⟩) (fun k hk => hk.1)).go (below_alloc (Below.refl wa.heap.size wa) (.cells #[.string (strOfNums st0.1), .int .i64 0, .int .i64 0] 93 (0, 0))))
   clear HD
   have HD := n_
   clear n_
   obtain ⟨Wx, hWx⟩ : ∃ Wx, wa.alloc (.cells #[.string (strOfNums st0.1), .int .i64 0, .int .i64 0] 93 (0, 0)) = Wx := ⟨_, rfl⟩
   rw [hWx] at HD HX ⊢
   clear hWx
   generalize wa.heap.size = gx at HD HX HGX ⊢
   have HSR := Aside0.mk (HD.out.src.at_ HD.out.below)
   go_upto_region 11 with (first | (go_at_call 63; (with_reducible refine (num_q st0.2 _ HSR.out HD.out.qr).mono ?_); rintro e wb1 ⟨rfl, hr, hp⟩; rw [H_st1.out] at hr ⊢; have n_ := Aside0.mk (HD.out.puts hr hp); have m_ := Aside0.mk (((hp 0 (Nat.zero_le _)).2.2 gx (by have := HGX.out; have := HD.out.lo; omega)).trans HX.out); have hgz : World.cell? wb1 ⟨gx, 1, none⟩ = some (.int .i64 0) := (blk_cell m_.out 1).trans rfl; have hgf := blk_frozen m_.out 1; clear HD HX HSR hr hp; have HD := n_; have HX := m_; clear n_ m_))
   have n_ := Aside0.mk (HD.out.far (j := 1) HGX.out (fun h => h.2 rfl) (.int .i64 st1.1))
   have m_ : Aside0 ((World.setCell wb1 ⟨gx, 1, none⟩ (.int .i64 st1.1)).heap[gx]? = some (.cells #[.string (strOfNums st0.1), .int .i64 st1.1, .int .i64 0] 93 (0, 0))) := ⟨blk_put HX.out 1 _ (by simp)⟩
   clear HD; clear HX; clear hgz; clear hgf
   have HD := n_
   have HX := m_
   clear n_; clear m_
   generalize World.setCell wb1 _ _ = Wy1 at HD HX ⊢
   have HSR := Aside0.mk (HD.out.src.at_ HD.out.below)
   go_upto_region 12 with (first | (go_at_call 63; (with_reducible refine (num_q st1.2 _ HSR.out HD.out.qr).mono ?_); rintro e wb2 ⟨rfl, hr, hp⟩; rw [H_st2.out] at hr ⊢; have n_ := Aside0.mk (HD.out.puts hr hp); have m_ := Aside0.mk (((hp 0 (Nat.zero_le _)).2.2 gx (by have := HGX.out; have := HD.out.lo; omega)).trans HX.out); have hgz : World.cell? wb2 ⟨gx, 2, none⟩ = some (.int .i64 0) := (blk_cell m_.out 2).trans rfl; have hgf := blk_frozen m_.out 2; clear HD HX HSR hr hp; have HD := n_; have HX := m_; clear n_ m_))
   have n_ := Aside0.mk (HD.out.far (j := 2) HGX.out (fun h => h.2 rfl) (.int .i64 st2.1))
   have m_ : Aside0 ((World.setCell wb2 ⟨gx, 2, none⟩ (.int .i64 st2.1)).heap[gx]? = some (.cells #[.string (strOfNums st0.1), .int .i64 st1.1, .int .i64 st2.1] 93 (0, 0))) := ⟨blk_put HX.out 2 _ (by simp)⟩
   clear HD; clear HX; clear hgz; clear hgf
   have HD := n_
   have HX := m_
   clear n_; clear m_
   generalize World.setCell wb2 _ _ = Wy2 at HD HX ⊢
   have hx0 : World.cell? Wy2 ⟨gx, 0, none⟩ = some (.string (strOfNums st0.1)) := (blk_cell HX.out 0).trans rfl
   have hx1 : World.cell? Wy2 ⟨gx, 1, none⟩ = some (.int .i64 st1.1) := (blk_cell HX.out 1).trans rfl
   have hx2 : World.cell? Wy2 ⟨gx, 2, none⟩ = some (.int .i64 st2.1) := (blk_cell HX.out 2).trans rfl
   have hgv : World.cell? Wy2 ⟨gb, 3, none⟩ = some v3 := (blk_cell HD.out.blk 3).trans rfl
   go_wp2_with (first | ((with_reducible refine gate_builtin (b := .append) (xs := #[.tmp 48, .tmp 50]) rfl ?_); at_builtin; refine Kd.R_append k93 (w0 := Wy2) w.heap.size rfl (.tmp 48) (.tmp 50) 62 93 (.agg #[(.string (⟨#[]⟩ : ByteArray)), (.int .i64 0), (.int .i64 0)]) 32 rfl Try.underlying62 sinfo93 rfl (by decide) (by omega) v3 x3 x [.string (strOfNums st0.1), .int .i64 st1.1, .int .i64 st2.1] (fun k => gb < k ∧ k ≠ gx) (fun _ => False) rfl rfl ?aP (fun _ hk => hk.elim) ?aF ?aO ?aB ?aS ?aL ?_; (case aP => exact (by rw [HXE.out]; exact k93_mkM _ _ _ _)); (case aF => exact (fun k hk => ⟨by have := blk_lt HD.out.blk; omega, by have := blk_lt HX.out; omega⟩)); (case aO => exact HD.out.o3); (case aB => exact Below.refl _ _); (case aS => exact below_size HD.out.below); (case aL => have := HOL.out; omega); intro vn w3 ho hb hg hat; obtain ⟨Av, cv, ev⟩ := Kd.R_slice ho; subst ev; rw [show (x3 ++ [x]).length = x3.length + 1 from List.length_append] at ho; have n_ := Aside0.mk (HD.out.set3 hg ho); have hgb := Aside0.mk (blk_grown HD.out.blk hg (fun e_ => by have := HD.out.okb _ (HD.out.o3.1 _ e_.symm); omega)); have hgz : World.cell? w3 ⟨gb, 3, none⟩ = some v3 := (blk_cell hgb.out 3).trans rfl; have hgf := blk_frozen hgb.out 3; clear HD ho hb hg hat hgb; have HD := n_; clear n_))
   have n_ := Aside0.mk (HD.out.mono (ok' := fun k => gb < k) (fun k hk _ => hk.1) (fun k hk => hk))
   clear HD; clear HX; clear HXE
   have HD := n_
   clear n_
   go_roundg k1
   case measure => omega
   case rel => exact ⟨y3 - 1, _, x3 ++ [x], _, by first | rw [ew] | rfl, ⟨by have := HI3.out; simp; omega⟩, HT2, HD⟩
  ·have d3b : decide (0 < y3) = false := decide_eq_false d3
   have hk0 : gk = 0 := by have := HI3.out; omega
   subst hk0
   have HT2_TF : Aside0 ((x3, ((s, false) : RS)) = TF) := ⟨HT.out⟩
   clear d3; clear HT
   obtain ⟨mFe, h_e⟩ : ∃ t, s = t := ⟨_, rfl⟩
   rw [h_e] at HT2_TF HD
   clear h_e; clear s
   obtain ⟨mA, h_mA⟩ : ∃ m, rMany 16 mFe = m := ⟨_, rfl⟩
   have HM_mA := Aside0.mk h_mA
   have HN_mA : Aside0 (0 ≤ mA.1 ∧ mA.1 ≤ 16) := ⟨by rw [← h_mA]; unfold rMany; split; (omega); (exact ⟨Int.le_refl _, (show (0 : Int) ≤ 16 by decide)⟩)⟩
   obtain ⟨TA, h_TA⟩ : ∃ T, rLoop dAlloc mA.1.toNat (mA.2, false) [] = T := ⟨_, rfl⟩
   have HT := Aside0.mk h_TA
   have HT_TA := Aside0.mk h_TA
   clear h_mA; clear h_TA
   have HSR := Aside0.mk (HD.out.src.at_ HD.out.below)
   go_wp2_with (first | (go_at_call 64; (with_reducible refine (many_q 16 mFe _ HSR.out HD.out.qr).mono ?_); rintro e wm ⟨rfl, hr, hp⟩; rw [HM_mA.out] at hr ⊢; have n_ := Aside0.mk (HD.out.puts hr hp); clear HD HSR hr hp; have HD := n_; clear n_))
   go_loopg [8] mA.1.toNat (fun kq v8_ w' => ∃ (y : Int) (v4 : Value) (x4 : List S95) (s : List Int × Bool), v8_ = .int .i64 y ∧ Aside0 (0 ≤ y ∧ y.toNat = kq ∧ x4.length + kq ≤ 16) ∧ Aside0 (rLoop dAlloc kq (s, false) x4 = TA) ∧ Aside0 (QT w w.heap.size gb q c A l s s1.1 s2.1 s3.1 v3 v4 (.slice none 0 0) (.slice none 0 0) (.slice none 0 0) x3 x4 [] [] [] (fun k => gb < k) w'))
   case atStart => exact ⟨_, _, [], _, rfl, ⟨HN_mA.out.1, rfl, by have := HN_mA.out; simp; omega⟩, HT, HD⟩
   case round =>
    clear HD; clear HT
    obtain ⟨y4, v4, x4, s, rfl, HI4, HT, HD⟩ := hrel
    by_cases d4 : 0 < y4
    ·have d4b : decide (0 < y4) = true := decide_eq_true d4
     obtain ⟨k1, rfl⟩ : ∃ k1, gk = k1 + 1 := ⟨gk - 1, by have := HI4.out; omega⟩
     have ew : wrap64 (y4 - 1) = y4 - 1 := by have := HI4.out; unfold wrap64; omega
     have HSR := Aside0.mk (HD.out.src.at_ HD.out.below)
     obtain ⟨st0, h_st0⟩ : ∃ t, rInt s = t := ⟨_, rfl⟩
     have H_st0 := Aside0.mk h_st0
     obtain ⟨st1, h_st1⟩ : ∃ t, rInt st0.2 = t := ⟨_, rfl⟩
     have H_st1 := Aside0.mk h_st1
     obtain ⟨st2, h_st2⟩ : ∃ t, rInt st1.2 = t := ⟨_, rfl⟩
     have H_st2 := Aside0.mk h_st2
     obtain ⟨st3, h_st3⟩ : ∃ t, rInt st2.2 = t := ⟨_, rfl⟩
     have H_st3 := Aside0.mk h_st3
     obtain ⟨st4, h_st4⟩ : ∃ t, rInt st3.2 = t := ⟨_, rfl⟩
     have H_st4 := Aside0.mk h_st4
     obtain ⟨st5, h_st5⟩ : ∃ t, rInt st4.2 = t := ⟨_, rfl⟩
     have H_st5 := Aside0.mk h_st5
     obtain ⟨x, hx⟩ : ∃ x : S95, x = ⟨st0.1, st1.1, st2.1, st3.1, st4.1, st5.1⟩ := ⟨_, rfl⟩
     have hdec : dAlloc (s, false) = (x, (st5.2, false)) := by rw [hx]; unfold dAlloc; simp only [rInts, h_st0, h_st1, h_st2, h_st3, h_st4, h_st5]; rfl
     have HT2 : Aside0 (rLoop dAlloc k1 (st5.2, false) (x4 ++ [x]) = TA) := ⟨by have := HT.out; rw [rLoop, hdec] at this; exact this⟩
     have HOL : Aside0 (x4.length ≤ 16) := ⟨by have := HI4.out; omega⟩
     have HXE := Aside0.mk hx
     clear d4; clear HT; clear hdec; clear hx; clear h_st0; clear h_st1; clear h_st2; clear h_st3; clear h_st4; clear h_st5
     go_upto_region 17 with (first | (go_at_call 63; (with_reducible refine (num_q s _ HSR.out HD.out.qr).mono ?_); rintro e wa ⟨rfl, hr, hp⟩; rw [H_st0.out] at hr ⊢; have n_ := Aside0.mk (HD.out.puts hr hp); clear HD HSR hr hp; have HD := n_; clear n_))
     have HX : Aside0 ((World.alloc wa (.cells #[.int .i64 st0.1, .int .i64 0, .int .i64 0, .int .i64 0, .int .i64 0, .int .i64 0] 95 (0, 0))).heap[wa.heap.size]? = some (.cells #[.int .i64 st0.1, .int .i64 0, .int .i64 0, .int .i64 0, .int .i64 0, .int .i64 0] 95 (0, 0))) := ⟨heap_alloc_new wa _⟩
     have HGX := Aside0.mk (blk_lt HD.out.blk)
     have n_ := Aside0.mk ((HD.out.mono (ok' := fun k => gb < k ∧ k ≠ wa.heap.size) (fun k hk hlt => ⟨hk, by omega⟩) (fun k hk => hk.1)).go (below_alloc (Below.refl wa.heap.size wa) (.cells #[.int .i64 st0.1, .int .i64 0, .int .i64 0, .int .i64 0, .int .i64 0, .int .i64 0] 95 (0, 0))))
     clear HD
     have HD := n_
     clear n_
     obtain ⟨Wx, hWx⟩ : ∃ Wx, wa.alloc (.cells #[.int .i64 st0.1, .int .i64 0, .int .i64 0, .int .i64 0, .int .i64 0, .int .i64 0] 95 (0, 0)) = Wx := ⟨_, rfl⟩
     rw [hWx] at HD HX ⊢
     clear hWx
     generalize wa.heap.size = gx at HD HX HGX ⊢
     have HSR := Aside0.mk (HD.out.src.at_ HD.out.below)
     go_upto_region 18 with (first | (go_at_call 63; (with_reducible refine (num_q st0.2 _ HSR.out HD.out.qr).mono ?_); rintro e wb1 ⟨rfl, hr, hp⟩; rw [H_st1.out] at hr ⊢; have n_ := Aside0.mk (HD.out.puts hr hp); have m_ := Aside0.mk (((hp 0 (Nat.zero_le _)).2.2 gx (by have := HGX.out; have := HD.out.lo; omega)).trans HX.out); have hgz : World.cell? wb1 ⟨gx, 1, none⟩ = some (.int .i64 0) := (blk_cell m_.out 1).trans rfl; have hgf := blk_frozen m_.out 1; clear HD HX HSR hr hp; have HD := n_; have HX := m_; clear n_ m_))
     have n_ := Aside0.mk (HD.out.far (j := 1) HGX.out (fun h => h.2 rfl) (.int .i64 st1.1))
     have m_ : Aside0 ((World.setCell wb1 ⟨gx, 1, none⟩ (.int .i64 st1.1)).heap[gx]? = some (.cells #[.int .i64 st0.1, .int .i64 st1.1, .int .i64 0, .int .i64 0, .int .i64 0, .int .i64 0] 95 (0, 0))) := ⟨blk_put HX.out 1 _ (by simp)⟩
     clear HD; clear HX; clear hgz; clear hgf
     have HD := n_
     have HX := m_
     clear n_; clear m_
     generalize World.setCell wb1 _ _ = Wy1 at HD HX ⊢
     have HSR := Aside0.mk (HD.out.src.at_ HD.out.below)
     go_upto_region 19 with (first | (go_at_call 63; (with_reducible refine (num_q st1.2 _ HSR.out HD.out.qr).mono ?_); rintro e wb2 ⟨rfl, hr, hp⟩; rw [H_st2.out] at hr ⊢; have n_ := Aside0.mk (HD.out.puts hr hp); have m_ := Aside0.mk (((hp 0 (Nat.zero_le _)).2.2 gx (by have := HGX.out; have := HD.out.lo; omega)).trans HX.out); have hgz : World.cell? wb2 ⟨gx, 2, none⟩ = some (.int .i64 0) := (blk_cell m_.out 2).trans rfl; have hgf := blk_frozen m_.out 2; clear HD HX HSR hr hp; have HD := n_; have HX := m_; clear n_ m_))
     have n_ := Aside0.mk (HD.out.far (j := 2) HGX.out (fun h => h.2 rfl) (.int .i64 st2.1))
     have m_ : Aside0 ((World.setCell wb2 ⟨gx, 2, none⟩ (.int .i64 st2.1)).heap[gx]? = some (.cells #[.int .i64 st0.1, .int .i64 st1.1, .int .i64 st2.1, .int .i64 0, .int .i64 0, .int .i64 0] 95 (0, 0))) := ⟨blk_put HX.out 2 _ (by simp)⟩
     clear HD; clear HX; clear hgz; clear hgf
     have HD := n_
     have HX := m_
     clear n_; clear m_
     generalize World.setCell wb2 _ _ = Wy2 at HD HX ⊢
     have HSR := Aside0.mk (HD.out.src.at_ HD.out.below)
     go_upto_region 20 with (first | (go_at_call 63; (with_reducible refine (num_q st2.2 _ HSR.out HD.out.qr).mono ?_); rintro e wb3 ⟨rfl, hr, hp⟩; rw [H_st3.out] at hr ⊢; have n_ := Aside0.mk (HD.out.puts hr hp); have m_ := Aside0.mk (((hp 0 (Nat.zero_le _)).2.2 gx (by have := HGX.out; have := HD.out.lo; omega)).trans HX.out); have hgz : World.cell? wb3 ⟨gx, 3, none⟩ = some (.int .i64 0) := (blk_cell m_.out 3).trans rfl; have hgf := blk_frozen m_.out 3; clear HD HX HSR hr hp; have HD := n_; have HX := m_; clear n_ m_))
     have n_ := Aside0.mk (HD.out.far (j := 3) HGX.out (fun h => h.2 rfl) (.int .i64 st3.1))
     have m_ : Aside0 ((World.setCell wb3 ⟨gx, 3, none⟩ (.int .i64 st3.1)).heap[gx]? = some (.cells #[.int .i64 st0.1, .int .i64 st1.1, .int .i64 st2.1, .int .i64 st3.1, .int .i64 0, .int .i64 0] 95 (0, 0))) := ⟨blk_put HX.out 3 _ (by simp)⟩
     clear HD; clear HX; clear hgz; clear hgf
     have HD := n_
     have HX := m_
     clear n_; clear m_
     generalize World.setCell wb3 _ _ = Wy3 at HD HX ⊢
     have HSR := Aside0.mk (HD.out.src.at_ HD.out.below)
     go_upto_region 21 with (first | (go_at_call 63; (with_reducible refine (num_q st3.2 _ HSR.out HD.out.qr).mono ?_); rintro e wb4 ⟨rfl, hr, hp⟩; rw [H_st4.out] at hr ⊢; have n_ := Aside0.mk (HD.out.puts hr hp); have m_ := Aside0.mk (((hp 0 (Nat.zero_le _)).2.2 gx (by have := HGX.out; have := HD.out.lo; omega)).trans HX.out); have hgz : World.cell? wb4 ⟨gx, 4, none⟩ = some (.int .i64 0) := (blk_cell m_.out 4).trans rfl; have hgf := blk_frozen m_.out 4; clear HD HX HSR hr hp; have HD := n_; have HX := m_; clear n_ m_))
     have n_ := Aside0.mk (HD.out.far (j := 4) HGX.out (fun h => h.2 rfl) (.int .i64 st4.1))
     have m_ : Aside0 ((World.setCell wb4 ⟨gx, 4, none⟩ (.int .i64 st4.1)).heap[gx]? = some (.cells #[.int .i64 st0.1, .int .i64 st1.1, .int .i64 st2.1, .int .i64 st3.1, .int .i64 st4.1, .int .i64 0] 95 (0, 0))) := ⟨blk_put HX.out 4 _ (by simp)⟩
     clear HD; clear HX; clear hgz; clear hgf
     have HD := n_
     have HX := m_
     clear n_; clear m_
     generalize World.setCell wb4 _ _ = Wy4 at HD HX ⊢
     have HSR := Aside0.mk (HD.out.src.at_ HD.out.below)
     go_upto_region 22 with (first | (go_at_call 63; (with_reducible refine (num_q st4.2 _ HSR.out HD.out.qr).mono ?_); rintro e wb5 ⟨rfl, hr, hp⟩; rw [H_st5.out] at hr ⊢; have n_ := Aside0.mk (HD.out.puts hr hp); have m_ := Aside0.mk (((hp 0 (Nat.zero_le _)).2.2 gx (by have := HGX.out; have := HD.out.lo; omega)).trans HX.out); have hgz : World.cell? wb5 ⟨gx, 5, none⟩ = some (.int .i64 0) := (blk_cell m_.out 5).trans rfl; have hgf := blk_frozen m_.out 5; clear HD HX HSR hr hp; have HD := n_; have HX := m_; clear n_ m_))
     have n_ := Aside0.mk (HD.out.far (j := 5) HGX.out (fun h => h.2 rfl) (.int .i64 st5.1))
     have m_ : Aside0 ((World.setCell wb5 ⟨gx, 5, none⟩ (.int .i64 st5.1)).heap[gx]? = some (.cells #[.int .i64 st0.1, .int .i64 st1.1, .int .i64 st2.1, .int .i64 st3.1, .int .i64 st4.1, .int .i64 st5.1] 95 (0, 0))) := ⟨blk_put HX.out 5 _ (by simp)⟩
     clear HD; clear HX; clear hgz; clear hgf
     have HD := n_
     have HX := m_
     clear n_; clear m_
     generalize World.setCell wb5 _ _ = Wy5 at HD HX ⊢
     have hx0 : World.cell? Wy5 ⟨gx, 0, none⟩ = some (.int .i64 st0.1) := (blk_cell HX.out 0).trans rfl
     have hx1 : World.cell? Wy5 ⟨gx, 1, none⟩ = some (.int .i64 st1.1) := (blk_cell HX.out 1).trans rfl
     have hx2 : World.cell? Wy5 ⟨gx, 2, none⟩ = some (.int .i64 st2.1) := (blk_cell HX.out 2).trans rfl
     have hx3 : World.cell? Wy5 ⟨gx, 3, none⟩ = some (.int .i64 st3.1) := (blk_cell HX.out 3).trans rfl
     have hx4 : World.cell? Wy5 ⟨gx, 4, none⟩ = some (.int .i64 st4.1) := (blk_cell HX.out 4).trans rfl
     have hx5 : World.cell? Wy5 ⟨gx, 5, none⟩ = some (.int .i64 st5.1) := (blk_cell HX.out 5).trans rfl
     have hgv : World.cell? Wy5 ⟨gb, 4, none⟩ = some v4 := (blk_cell HD.out.blk 4).trans rfl
     go_wp2_with (first | ((with_reducible refine gate_builtin (b := .append) (xs := #[.tmp 78, .tmp 80]) rfl ?_); at_builtin; refine Kd.R_append k95 (w0 := Wy5) w.heap.size rfl (.tmp 78) (.tmp 80) 63 95 (.agg #[(.int .i64 0), (.int .i64 0), (.int .i64 0), (.int .i64 0), (.int .i64 0), (.int .i64 0)]) 48 rfl Try.underlying63 sinfo95 rfl (by decide) (by omega) v4 x4 x [.int .i64 st0.1, .int .i64 st1.1, .int .i64 st2.1, .int .i64 st3.1, .int .i64 st4.1, .int .i64 st5.1] (fun k => gb < k ∧ k ≠ gx) (fun _ => False) rfl rfl ?aP (fun _ hk => hk.elim) ?aF ?aO ?aB ?aS ?aL ?_; (case aP => exact (by rw [HXE.out]; exact k95_mkM _ _ _ _)); (case aF => exact (fun k hk => ⟨by have := blk_lt HD.out.blk; omega, by have := blk_lt HX.out; omega⟩)); (case aO => exact HD.out.o4); (case aB => exact Below.refl _ _); (case aS => exact below_size HD.out.below); (case aL => have := HOL.out; omega); intro vn w3 ho hb hg hat; obtain ⟨Av, cv, ev⟩ := Kd.R_slice ho; subst ev; rw [show (x4 ++ [x]).length = x4.length + 1 from List.length_append] at ho; have n_ := Aside0.mk (HD.out.set4 hg ho); have hgb := Aside0.mk (blk_grown HD.out.blk hg (fun e_ => by have := HD.out.okb _ (HD.out.o4.1 _ e_.symm); omega)); have hgz : World.cell? w3 ⟨gb, 4, none⟩ = some v4 := (blk_cell hgb.out 4).trans rfl; have hgf := blk_frozen hgb.out 4; clear HD ho hb hg hat hgb; have HD := n_; clear n_))
     have n_ := Aside0.mk (HD.out.mono (ok' := fun k => gb < k) (fun k hk _ => hk.1) (fun k hk => hk))
     clear HD; clear HX; clear HXE
     have HD := n_
     clear n_
     go_roundg k1
     case measure => omega
     case rel => exact ⟨y4 - 1, _, x4 ++ [x], _, by first | rw [ew] | rfl, ⟨by have := HI4.out; simp; omega⟩, HT2, HD⟩
    ·have d4b : decide (0 < y4) = false := decide_eq_false d4
     have hk0 : gk = 0 := by have := HI4.out; omega
     subst hk0
     have HT2_TA : Aside0 ((x4, ((s, false) : RS)) = TA) := ⟨HT.out⟩
     clear d4; clear HT
     obtain ⟨mAe, h_e⟩ : ∃ t, s = t := ⟨_, rfl⟩
     rw [h_e] at HT2_TA HD
     clear h_e; clear s
     obtain ⟨mR, h_mR⟩ : ∃ m, rMany 16 mAe = m := ⟨_, rfl⟩
     have HM_mR := Aside0.mk h_mR
     have HN_mR : Aside0 (0 ≤ mR.1 ∧ mR.1 ≤ 16) := ⟨by rw [← h_mR]; unfold rMany; split; (omega); (exact ⟨Int.le_refl _, (show (0 : Int) ≤ 16 by decide)⟩)⟩
     obtain ⟨TR, h_TR⟩ : ∃ T, rLoop dRate mR.1.toNat (mR.2, false) [] = T := ⟨_, rfl⟩
     have HT := Aside0.mk h_TR
     have HT_TR := Aside0.mk h_TR
     clear h_mR; clear h_TR
     have HSR := Aside0.mk (HD.out.src.at_ HD.out.below)
     go_wp2_with (first | (go_at_call 64; (with_reducible refine (many_q 16 mAe _ HSR.out HD.out.qr).mono ?_); rintro e wm ⟨rfl, hr, hp⟩; rw [HM_mR.out] at hr ⊢; have n_ := Aside0.mk (HD.out.puts hr hp); clear HD HSR hr hp; have HD := n_; clear n_))
     go_loopg [10] mR.1.toNat (fun kq v10_ w' => ∃ (y : Int) (v5 : Value) (x5 : List S97) (s : List Int × Bool), v10_ = .int .i64 y ∧ Aside0 (0 ≤ y ∧ y.toNat = kq ∧ x5.length + kq ≤ 16) ∧ Aside0 (rLoop dRate kq (s, false) x5 = TR) ∧ Aside0 (QT w w.heap.size gb q c A l s s1.1 s2.1 s3.1 v3 v4 v5 (.slice none 0 0) (.slice none 0 0) x3 x4 x5 [] [] (fun k => gb < k) w'))
     case atStart => exact ⟨_, _, [], _, rfl, ⟨HN_mR.out.1, rfl, by have := HN_mR.out; simp; omega⟩, HT, HD⟩
     case round =>
      clear HD; clear HT
      obtain ⟨y5, v5, x5, s, rfl, HI5, HT, HD⟩ := hrel
      by_cases d5 : 0 < y5
      ·have d5b : decide (0 < y5) = true := decide_eq_true d5
       obtain ⟨k1, rfl⟩ : ∃ k1, gk = k1 + 1 := ⟨gk - 1, by have := HI5.out; omega⟩
       have ew : wrap64 (y5 - 1) = y5 - 1 := by have := HI5.out; unfold wrap64; omega
       have HSR := Aside0.mk (HD.out.src.at_ HD.out.below)
       obtain ⟨st0, h_st0⟩ : ∃ t, rInt s = t := ⟨_, rfl⟩
       have H_st0 := Aside0.mk h_st0
       obtain ⟨st1, h_st1⟩ : ∃ t, rInt st0.2 = t := ⟨_, rfl⟩
       have H_st1 := Aside0.mk h_st1
       obtain ⟨st2, h_st2⟩ : ∃ t, rInt st1.2 = t := ⟨_, rfl⟩
       have H_st2 := Aside0.mk h_st2
       obtain ⟨x, hx⟩ : ∃ x : S97, x = ⟨st0.1, st1.1, st2.1⟩ := ⟨_, rfl⟩
       have hdec : dRate (s, false) = (x, (st2.2, false)) := by rw [hx]; unfold dRate; simp only [rInts, h_st0, h_st1, h_st2]; rfl
       have HT2 : Aside0 (rLoop dRate k1 (st2.2, false) (x5 ++ [x]) = TR) := ⟨by have := HT.out; rw [rLoop, hdec] at this; exact this⟩
       have HOL : Aside0 (x5.length ≤ 16) := ⟨by have := HI5.out; omega⟩
       have HXE := Aside0.mk hx
       clear d5; clear HT; clear hdec; clear hx; clear h_st0; clear h_st1; clear h_st2
       go_upto_region 27 with (first | (go_at_call 63; (with_reducible refine (num_q s _ HSR.out HD.out.qr).mono ?_); rintro e wa ⟨rfl, hr, hp⟩; rw [H_st0.out] at hr ⊢; have n_ := Aside0.mk (HD.out.puts hr hp); clear HD HSR hr hp; have HD := n_; clear n_))
       have HX : Aside0 ((World.alloc wa (.cells #[.int .i64 st0.1, .int .i64 0, .int .i64 0] 97 (0, 0))).heap[wa.heap.size]? = some (.cells #[.int .i64 st0.1, .int .i64 0, .int .i64 0] 97 (0, 0))) := ⟨heap_alloc_new wa _⟩
       have HGX := Aside0.mk (blk_lt HD.out.blk)
       have n_ := Aside0.mk ((HD.out.mono (ok' := fun k => gb < k ∧ k ≠ wa.heap.size) (fun k hk hlt => ⟨hk, by omega⟩) (fun k hk => hk.1)).go (below_alloc (Below.refl wa.heap.size wa) (.cells #[.int .i64 st0.1, .int .i64 0, .int .i64 0] 97 (0, 0))))
       clear HD
       have HD := n_
       clear n_
       obtain ⟨Wx, hWx⟩ : ∃ Wx, wa.alloc (.cells #[.int .i64 st0.1, .int .i64 0, .int .i64 0] 97 (0, 0)) = Wx := ⟨_, rfl⟩
       rw [hWx] at HD HX ⊢
       clear hWx
       generalize wa.heap.size = gx at HD HX HGX ⊢
       have HSR := Aside0.mk (HD.out.src.at_ HD.out.below)
       go_upto_region 28 with (first | (go_at_call 63; (with_reducible refine (num_q st0.2 _ HSR.out HD.out.qr).mono ?_); rintro e wb1 ⟨rfl, hr, hp⟩; rw [H_st1.out] at hr ⊢; have n_ := Aside0.mk (HD.out.puts hr hp); have m_ := Aside0.mk (((hp 0 (Nat.zero_le _)).2.2 gx (by have := HGX.out; have := HD.out.lo; omega)).trans HX.out); have hgz : World.cell? wb1 ⟨gx, 1, none⟩ = some (.int .i64 0) := (blk_cell m_.out 1).trans rfl; have hgf := blk_frozen m_.out 1; clear HD HX HSR hr hp; have HD := n_; have HX := m_; clear n_ m_))
       have n_ := Aside0.mk (HD.out.far (j := 1) HGX.out (fun h => h.2 rfl) (.int .i64 st1.1))
       have m_ : Aside0 ((World.setCell wb1 ⟨gx, 1, none⟩ (.int .i64 st1.1)).heap[gx]? = some (.cells #[.int .i64 st0.1, .int .i64 st1.1, .int .i64 0] 97 (0, 0))) := ⟨blk_put HX.out 1 _ (by simp)⟩
       clear HD; clear HX; clear hgz; clear hgf
       have HD := n_
       have HX := m_
       clear n_; clear m_
       generalize World.setCell wb1 _ _ = Wy1 at HD HX ⊢
       have HSR := Aside0.mk (HD.out.src.at_ HD.out.below)
       go_upto_region 29 with (first | (go_at_call 63; (with_reducible refine (num_q st1.2 _ HSR.out HD.out.qr).mono ?_); rintro e wb2 ⟨rfl, hr, hp⟩; rw [H_st2.out] at hr ⊢; have n_ := Aside0.mk (HD.out.puts hr hp); have m_ := Aside0.mk (((hp 0 (Nat.zero_le _)).2.2 gx (by have := HGX.out; have := HD.out.lo; omega)).trans HX.out); have hgz : World.cell? wb2 ⟨gx, 2, none⟩ = some (.int .i64 0) := (blk_cell m_.out 2).trans rfl; have hgf := blk_frozen m_.out 2; clear HD HX HSR hr hp; have HD := n_; have HX := m_; clear n_ m_))
       have n_ := Aside0.mk (HD.out.far (j := 2) HGX.out (fun h => h.2 rfl) (.int .i64 st2.1))
       have m_ : Aside0 ((World.setCell wb2 ⟨gx, 2, none⟩ (.int .i64 st2.1)).heap[gx]? = some (.cells #[.int .i64 st0.1, .int .i64 st1.1, .int .i64 st2.1] 97 (0, 0))) := ⟨blk_put HX.out 2 _ (by simp)⟩
       clear HD; clear HX; clear hgz; clear hgf
       have HD := n_
       have HX := m_
       clear n_; clear m_
       generalize World.setCell wb2 _ _ = Wy2 at HD HX ⊢
       have hx0 : World.cell? Wy2 ⟨gx, 0, none⟩ = some (.int .i64 st0.1) := (blk_cell HX.out 0).trans rfl
       have hx1 : World.cell? Wy2 ⟨gx, 1, none⟩ = some (.int .i64 st1.1) := (blk_cell HX.out 1).trans rfl
       have hx2 : World.cell? Wy2 ⟨gx, 2, none⟩ = some (.int .i64 st2.1) := (blk_cell HX.out 2).trans rfl
       have hgv : World.cell? Wy2 ⟨gb, 5, none⟩ = some v5 := (blk_cell HD.out.blk 5).trans rfl
       go_wp2_with (first | ((with_reducible refine gate_builtin (b := .append) (xs := #[.tmp 99, .tmp 101]) rfl ?_); at_builtin; refine Kd.R_append k97 (w0 := Wy2) w.heap.size rfl (.tmp 99) (.tmp 101) 64 97 (.agg #[(.int .i64 0), (.int .i64 0), (.int .i64 0)]) 24 rfl Try.underlying64 sinfo97 rfl (by decide) (by omega) v5 x5 x [.int .i64 st0.1, .int .i64 st1.1, .int .i64 st2.1] (fun k => gb < k ∧ k ≠ gx) (fun _ => False) rfl rfl ?aP (fun _ hk => hk.elim) ?aF ?aO ?aB ?aS ?aL ?_; (case aP => exact (by rw [HXE.out]; exact k97_mkM _ _ _ _)); (case aF => exact (fun k hk => ⟨by have := blk_lt HD.out.blk; omega, by have := blk_lt HX.out; omega⟩)); (case aO => exact HD.out.o5); (case aB => exact Below.refl _ _); (case aS => exact below_size HD.out.below); (case aL => have := HOL.out; omega); intro vn w3 ho hb hg hat; obtain ⟨Av, cv, ev⟩ := Kd.R_slice ho; subst ev; rw [show (x5 ++ [x]).length = x5.length + 1 from List.length_append] at ho; have n_ := Aside0.mk (HD.out.set5 hg ho); have hgb := Aside0.mk (blk_grown HD.out.blk hg (fun e_ => by have := HD.out.okb _ (HD.out.o5.1 _ e_.symm); omega)); have hgz : World.cell? w3 ⟨gb, 5, none⟩ = some v5 := (blk_cell hgb.out 5).trans rfl; have hgf := blk_frozen hgb.out 5; clear HD ho hb hg hat hgb; have HD := n_; clear n_))
       have n_ := Aside0.mk (HD.out.mono (ok' := fun k => gb < k) (fun k hk _ => hk.1) (fun k hk => hk))
       clear HD; clear HX; clear HXE
       have HD := n_
       clear n_
       go_roundg k1
       case measure => omega
       case rel => exact ⟨y5 - 1, _, x5 ++ [x], _, by first | rw [ew] | rfl, ⟨by have := HI5.out; simp; omega⟩, HT2, HD⟩
      ·have d5b : decide (0 < y5) = false := decide_eq_false d5
       have hk0 : gk = 0 := by have := HI5.out; omega
       subst hk0
       have HT2_TR : Aside0 ((x5, ((s, false) : RS)) = TR) := ⟨HT.out⟩
       clear d5; clear HT
       obtain ⟨mRe, h_e⟩ : ∃ t, s = t := ⟨_, rfl⟩
       rw [h_e] at HT2_TR HD
       clear h_e; clear s
       obtain ⟨mJ, h_mJ⟩ : ∃ m, rMany 16 mRe = m := ⟨_, rfl⟩
       have HM_mJ := Aside0.mk h_mJ
       have HN_mJ : Aside0 (0 ≤ mJ.1 ∧ mJ.1 ≤ 16) := ⟨by rw [← h_mJ]; unfold rMany; split; (omega); (exact ⟨Int.le_refl _, (show (0 : Int) ≤ 16 by decide)⟩)⟩
       obtain ⟨TJ, h_TJ⟩ : ∃ T, rLoop qJob mJ.1.toNat (mJ.2, false) [] = T := ⟨_, rfl⟩
       have HT := Aside0.mk h_TJ
       have HT_TJ := Aside0.mk h_TJ
       clear h_mJ; clear h_TJ
       have HSR := Aside0.mk (HD.out.src.at_ HD.out.below)
       go_wp2_with (first | (go_at_call 64; (with_reducible refine (many_q 16 mRe _ HSR.out HD.out.qr).mono ?_); rintro e wm ⟨rfl, hr, hp⟩; rw [HM_mJ.out] at hr ⊢; have n_ := Aside0.mk (HD.out.puts hr hp); clear HD HSR hr hp; have HD := n_; clear n_))
       go_loopg [12] mJ.1.toNat (fun kq v12_ w' => ∃ (y : Int) (v6 : Value) (x6 : List S100) (s : List Int × Bool), v12_ = .int .i64 y ∧ Aside0 (0 ≤ y ∧ y.toNat = kq ∧ x6.length + kq ≤ 16) ∧ Aside0 (rLoop qJob kq (s, false) x6 = TJ) ∧ Aside0 (QT w w.heap.size gb q c A l s s1.1 s2.1 s3.1 v3 v4 v5 v6 (.slice none 0 0) x3 x4 x5 x6 [] (fun k => gb < k) w'))
       case atStart => exact ⟨_, _, [], _, rfl, ⟨HN_mJ.out.1, rfl, by have := HN_mJ.out; simp; omega⟩, HT, HD⟩
       case round =>
        clear HD; clear HT
        obtain ⟨y6, v6, x6, s, rfl, HI6, HT, HD⟩ := hrel
        by_cases d6 : 0 < y6
        ·have d6b : decide (0 < y6) = true := decide_eq_true d6
         obtain ⟨k1, rfl⟩ : ∃ k1, gk = k1 + 1 := ⟨gk - 1, by have := HI6.out; omega⟩
         have ew : wrap64 (y6 - 1) = y6 - 1 := by have := HI6.out; unfold wrap64; omega
         have HSR := Aside0.mk (HD.out.src.at_ HD.out.below)
         obtain ⟨y_0, y_1, y_2, y_3, y_4, y_5, y_6, y_7, y_8, y_9, y_10, h_ys⟩ := eleven _ (rInts_len 11 s)
         obtain ⟨sF, h_sF⟩ : ∃ t, (rInts 11 s).2 = t := ⟨_, rfl⟩
         obtain ⟨mD, h_mD⟩ : ∃ t, rMany 16 sF = t := ⟨_, rfl⟩
         obtain ⟨TD, h_TD⟩ : ∃ t, rLoop dDraw mD.1.toNat (mD.2, false) [] = t := ⟨_, rfl⟩
         have HM_mD := Aside0.mk h_mD
         have HN_mD : Aside0 (0 ≤ mD.1 ∧ mD.1 ≤ 16) := ⟨by rw [← h_mD]; unfold rMany; split; (omega); (exact ⟨Int.le_refl _, (show (0 : Int) ≤ 16 by decide)⟩)⟩
         have HTD := Aside0.mk h_TD
         have hdec : qJob (s, false) = ((⟨y_0, y_1, y_2, y_3, y_4, y_5, y_6, y_7, y_8, y_9, y_10, TD.1⟩ : S100), TD.2) := by unfold qJob qList; simp only [h_ys, h_sF, h_mD, h_TD]; rfl
         have HT2 : Aside0 (rLoop qJob k1 TD.2 (x6 ++ [(⟨y_0, y_1, y_2, y_3, y_4, y_5, y_6, y_7, y_8, y_9, y_10, TD.1⟩ : S100)]) = TJ) := ⟨by have := HT.out; rw [rLoop, hdec] at this; exact this⟩
         have HOL : Aside0 (x6.length ≤ 16) := ⟨by have := HI6.out; omega⟩
         have HYS : Aside0 ([] ++ (rInts 11 s).1 = [y_0, y_1, y_2, y_3, y_4, y_5, y_6, y_7, y_8, y_9, y_10] ∧ (rInts 11 s).2 = sF) := ⟨h_ys, h_sF⟩
         clear d6; clear HT; clear hdec; clear HSR; clear h_ys; clear h_sF; clear h_mD; clear h_TD
         go_wp2_with (first | ((with_reducible refine gate_dst (N := 110) rfl ?_); refine Kd.R_lit (Kd.int .i64) _ 3 ?hg (N := 110) ?hd (xs := ([] : List Int)) (inner := []) (ok := fun _ => True) (okp := fun _ => True) ?hr ?hp (fun _ hk => hk) trivial (Below.refl _ _) (Nat.le_refl _) (by simp) ?_; (case hd => rfl); (case hg => rfl); (case hr => first | (go_simp; done) | (go_simp; rfl)); (case hp => exact (Reps.none _ _)); intro v13 w13 ho hb hg_ hnew_; clear hg_ hnew_; have HO := Aside0.mk (Kd.R_lower (Kd.R_mono (ok' := fun k => w.heap.size ≤ k) (Kd.R_bound ho) (fun k hk => Nat.le_trans (below_size HD.out.below) hk.2.1)) (Nat.zero_le _)); have n_ := Aside0.mk (HD.out.go hb); clear HD ho hb; have HD := n_; clear n_))
         go_loopg [13, 14] 11 (fun kq v13_ v14_ w' => ∃ (z : Int) (ys : List Int) (s : List Int × Bool), v14_ = .int .i64 z ∧ Aside0 (0 ≤ z ∧ z + kq = 11 ∧ (ys.length : Int) = z) ∧ Aside0 (ys ++ (rInts kq s).1 = [y_0, y_1, y_2, y_3, y_4, y_5, y_6, y_7, y_8, y_9, y_10] ∧ (rInts kq s).2 = sF) ∧ Aside0 (Kd.R (Kd.int .i64) 3 w' 0 (fun k => w.heap.size ≤ k) v13_ ys) ∧ Aside0 (QT w w.heap.size gb q c A l s s1.1 s2.1 s3.1 v3 v4 v5 v6 (.slice none 0 0) x3 x4 x5 x6 [] (fun k => gb < k) w'))
         case atStart => exact ⟨0, [], s, rfl, ⟨by omega, by omega, rfl⟩, HYS, HO, HD⟩
         case round =>
          clear HD; clear HO; clear HYS; clear s
          obtain ⟨z, ys, s, rfl, HZ, HYS, HO, HD⟩ := hrel
          by_cases d14 : z < 11
          ·have d14b : decide (z < 11) = true := decide_eq_true d14
           obtain ⟨k2, rfl⟩ : ∃ k2, gk = k2 + 1 := ⟨gk - 1, by have := HZ.out; omega⟩
           have ez_ : wrap64 (z + 1) = z + 1 := by have := HZ.out; unfold wrap64; omega
           obtain ⟨st0, h_st0⟩ : ∃ t, rInt s = t := ⟨_, rfl⟩
           have H_st0 := Aside0.mk h_st0
           have HYS2 : Aside0 ((ys ++ [st0.1]) ++ (rInts k2 st0.2).1 = [y_0, y_1, y_2, y_3, y_4, y_5, y_6, y_7, y_8, y_9, y_10] ∧ (rInts k2 st0.2).2 = sF) := ⟨by have := HYS.out; simp only [rInts, h_st0] at this; exact ⟨by rw [List.append_assoc]; exact this.1, this.2⟩⟩
           clear d14; clear HYS; clear h_st0
           have HSR := Aside0.mk (HD.out.src.at_ HD.out.below)
           go_wp2_with (first | (go_at_call 63; (with_reducible refine (num_q s _ HSR.out HD.out.qr).mono ?_); rintro e wn ⟨rfl, hr, hp⟩; rw [H_st0.out] at hr ⊢; obtain ⟨at_, _, hq_⟩ := HD.out.qr.ex; have m_ := Aside0.mk (R_puts HO.out hq_ (by intro x hx; (have hx2 : x ∈ [3] := hx); simp at hx2; omega) hp); have n_ := Aside0.mk (HD.out.puts hr hp); clear HD HO HSR hr hp hq_; have HD := n_; have HO := m_; clear n_ m_) | ((with_reducible refine gate_builtin (b := .append) (xs := #[.tmp 115, .tmp 118]) rfl ?_); at_builtin; refine Kd.R_append (Kd.int .i64) (w0 := wn) 0 rfl (.tmp 115) (.tmp 118) 42 3 (.int .i64 0) 8 rfl Try.underlying42 info3 rfl (by decide) (by omega) u13 ys st0.1 [.int .i64 st0.1] (fun k => w.heap.size ≤ k) (fun _ => False) rfl rfl ?aP (fun _ hk => hk.elim) ?aF ?aO ?aB ?aS ?aL ?_; (case aP => exact rfl); (case aF => exact (fun k hk => Nat.le_trans (below_size HD.out.below) hk)); (case aO => exact HO.out); (case aB => exact Below.refl _ _); (case aS => exact Nat.zero_le _); (case aL => have := HZ.out; omega); intro vn w3 ho hb hg hat; have n_ := Aside0.mk (HD.out.rows HO.out hg HO.out.1); clear HD HO; have HD := n_; have HO := Aside0.mk ho; clear n_ ho hb hg hat))
           go_roundg k2
           case measure => omega
           case rel => exact ⟨z + 1, ys ++ [st0.1], st0.2, by rw [ez_], ⟨by have := HZ.out; simp; omega⟩, HYS2, HO, HD⟩
          ·have d14b : decide (z < 11) = false := decide_eq_false d14
           have hk0 : gk = 0 := by have := HZ.out; omega
           subst hk0
           have hys : ys = [y_0, y_1, y_2, y_3, y_4, y_5, y_6, y_7, y_8, y_9, y_10] ∧ s = sF := by have := HYS.out; simpa [rInts] using this
           obtain ⟨rfl, rfl⟩ := hys
           clear d14; clear HYS; clear HZ
           obtain ⟨g13, cap13, cur13, e13, hheap, hcur⟩ : ∃ g13 cap13 cur13, u13 = .slice (some ⟨g13, 0, none⟩) 11 cap13 ∧ wr.heap[g13]? = some (.cells cur13 3 (0, 0)) ∧ cur13.toList.take 11 = nums .i64 [y_0, y_1, y_2, y_3, y_4, y_5, y_6, y_7, y_8, y_9, y_10] := by
            have hown := Kd.own_of_R HO.out
            rcases hown.2 with ⟨e, e0⟩ | ⟨g, cap, cur, e, hbg, hheap, hn, hm, hsz, htake⟩
            ·exact absurd e0 (by simp)
            ·exact ⟨g, cap, cur, e, hheap, htake⟩
           subst e13
           have HB13 := Aside0.mk hheap
           have hq0 : World.cell? wr ⟨g13, 0, none⟩ = some (.int .i64 y_0) := by rw [blk_cell hheap]; have := congrArg (fun l => l[0]?) hcur; simpa [nums] using this
           have hq1 : World.cell? wr ⟨g13, 1, none⟩ = some (.int .i64 y_1) := by rw [blk_cell hheap]; have := congrArg (fun l => l[1]?) hcur; simpa [nums] using this
           have hq2 : World.cell? wr ⟨g13, 2, none⟩ = some (.int .i64 y_2) := by rw [blk_cell hheap]; have := congrArg (fun l => l[2]?) hcur; simpa [nums] using this
           have hq3 : World.cell? wr ⟨g13, 3, none⟩ = some (.int .i64 y_3) := by rw [blk_cell hheap]; have := congrArg (fun l => l[3]?) hcur; simpa [nums] using this
           have hq4 : World.cell? wr ⟨g13, 4, none⟩ = some (.int .i64 y_4) := by rw [blk_cell hheap]; have := congrArg (fun l => l[4]?) hcur; simpa [nums] using this
           have hq5 : World.cell? wr ⟨g13, 5, none⟩ = some (.int .i64 y_5) := by rw [blk_cell hheap]; have := congrArg (fun l => l[5]?) hcur; simpa [nums] using this
           have hq6 : World.cell? wr ⟨g13, 6, none⟩ = some (.int .i64 y_6) := by rw [blk_cell hheap]; have := congrArg (fun l => l[6]?) hcur; simpa [nums] using this
           have hq7 : World.cell? wr ⟨g13, 7, none⟩ = some (.int .i64 y_7) := by rw [blk_cell hheap]; have := congrArg (fun l => l[7]?) hcur; simpa [nums] using this
           have hq8 : World.cell? wr ⟨g13, 8, none⟩ = some (.int .i64 y_8) := by rw [blk_cell hheap]; have := congrArg (fun l => l[8]?) hcur; simpa [nums] using this
           have hq9 : World.cell? wr ⟨g13, 9, none⟩ = some (.int .i64 y_9) := by rw [blk_cell hheap]; have := congrArg (fun l => l[9]?) hcur; simpa [nums] using this
           have hq10 : World.cell? wr ⟨g13, 10, none⟩ = some (.int .i64 y_10) := by rw [blk_cell hheap]; have := congrArg (fun l => l[10]?) hcur; simpa [nums] using this
           clear HO; clear hheap; clear hcur
           go_upto_region 38 with (fail)
           refine start_ (n := 36) (S := fun w' => w'.cell? ⟨g13, 0, none⟩ = some (.int .i64 y_0) ∧ w'.cell? ⟨g13, 1, none⟩ = some (.int .i64 y_1) ∧ w'.cell? ⟨g13, 2, none⟩ = some (.int .i64 y_2) ∧ w'.cell? ⟨g13, 3, none⟩ = some (.int .i64 y_3) ∧ w'.cell? ⟨g13, 4, none⟩ = some (.int .i64 y_4) ∧ w'.cell? ⟨g13, 5, none⟩ = some (.int .i64 y_5) ∧ w'.cell? ⟨g13, 6, none⟩ = some (.int .i64 y_6) ∧ w'.cell? ⟨g13, 7, none⟩ = some (.int .i64 y_7) ∧ w'.cell? ⟨g13, 8, none⟩ = some (.int .i64 y_8) ∧ w'.cell? ⟨g13, 9, none⟩ = some (.int .i64 y_9) ∧ w'.cell? ⟨g13, 10, none⟩ = some (.int .i64 y_10)) (ds := [35]) #[false, false, false, false, false, false, false, false, false, false, false, false, false, false, false, false, false, false, false, false, false, false, false, false, false, false, false, false, false, false, false, false, false, false, false, false] (by kernel_rfl) rfl rfl ⟨hq0, hq1, hq2, hq3, hq4, hq5, hq6, hq7, hq8, hq9, hq10⟩ (fun hHeld => ?_); refine with_tabW RefJ.tab38 RefJ.bits38 (fun HT_ HW_ => ?_)
           have n_ := Aside0.mk (HD.out.go (below_drew (Below.refl _ _)))
           have m_ := Aside0.mk (blk_below HB13.out (below_drew (Below.refl _ _)))
           clear HD; clear HB13; clear hq0; clear hq1; clear hq2; clear hq3; clear hq4; clear hq5; clear hq6; clear hq7; clear hq8; clear hq9; clear hq10
           have HD := n_
           have HB13 := m_
           clear n_; clear m_
           generalize World.drew _ = wz at HD HB13 hHeld ⊢
           refine plan_ [(0, 120), (1, 121)] ?_
           iterate 2 (refine planP_ (v := ?_) (a' := ?_) rfl rfl (any_of HT_.out (by kernel_rfl)) (fun _ _ _ h => h) (Or.inl ⟨by rfl, ?_⟩) ?_ ?_; rotate_left; (intro w'; go_simp; with_reducible rfl); rotate_left; (simp only [Act.put, List.setIfInBounds_toArray, List.set_cons_zero, List.set_cons_succ, i64_w, i32_w]; rfl))
           refine planEnd_ ?_
           refine plan_ [(2, 122)] ?_
           refine planT_ (v := ?_) (a' := ?_) rfl rfl (take_ofW HT_.out HW_.out (by kernel_rfl)) (fun _ _ _ h => h) (Or.inl ⟨by rfl, ?_⟩) hHeld ?_ ?_; rotate_left; (rintro w' hs_; obtain ⟨s0, s1, s2, s3, s4, s5, s6, s7, s8, s9, s10⟩ := hs_; go_simp; with_reducible rfl); rotate_left; (simp only [Act.put, List.setIfInBounds_toArray, List.set_cons_zero, List.set_cons_succ, i64_w, i32_w]; rfl)
           refine planEnd_ ?_
           refine plan_ [(3, 123), (4, 124)] ?_
           iterate 2 (refine planP_ (v := ?_) (a' := ?_) rfl rfl (any_of HT_.out (by kernel_rfl)) (fun _ _ _ h => h) (Or.inl ⟨by rfl, ?_⟩) ?_ ?_; rotate_left; (intro w'; go_simp; with_reducible rfl); rotate_left; (simp only [Act.put, List.setIfInBounds_toArray, List.set_cons_zero, List.set_cons_succ, i64_w, i32_w]; rfl))
           refine planEnd_ ?_
           refine plan_ [(5, 125)] ?_
           refine planT_ (v := ?_) (a' := ?_) rfl rfl (take_ofW HT_.out HW_.out (by kernel_rfl)) (fun _ _ _ h => h) (Or.inl ⟨by rfl, ?_⟩) hHeld ?_ ?_; rotate_left; (rintro w' hs_; obtain ⟨s0, s1, s2, s3, s4, s5, s6, s7, s8, s9, s10⟩ := hs_; go_simp; with_reducible rfl); rotate_left; (simp only [Act.put, List.setIfInBounds_toArray, List.set_cons_zero, List.set_cons_succ, i64_w, i32_w]; rfl)
           refine planEnd_ ?_
           refine plan_ [(6, 126), (7, 127)] ?_
           iterate 2 (refine planP_ (v := ?_) (a' := ?_) rfl rfl (any_of HT_.out (by kernel_rfl)) (fun _ _ _ h => h) (Or.inl ⟨by rfl, ?_⟩) ?_ ?_; rotate_left; (intro w'; go_simp; with_reducible rfl); rotate_left; (simp only [Act.put, List.setIfInBounds_toArray, List.set_cons_zero, List.set_cons_succ, i64_w, i32_w]; rfl))
           refine planEnd_ ?_
           refine plan_ [(8, 128)] ?_
           refine planT_ (v := ?_) (a' := ?_) rfl rfl (take_ofW HT_.out HW_.out (by kernel_rfl)) (fun _ _ _ h => h) (Or.inl ⟨by rfl, ?_⟩) hHeld ?_ ?_; rotate_left; (rintro w' hs_; obtain ⟨s0, s1, s2, s3, s4, s5, s6, s7, s8, s9, s10⟩ := hs_; go_simp; with_reducible rfl); rotate_left; (simp only [Act.put, List.setIfInBounds_toArray, List.set_cons_zero, List.set_cons_succ, i64_w, i32_w]; rfl)
           refine planEnd_ ?_
           refine plan_ [(9, 129), (10, 130)] ?_
           iterate 2 (refine planP_ (v := ?_) (a' := ?_) rfl rfl (any_of HT_.out (by kernel_rfl)) (fun _ _ _ h => h) (Or.inl ⟨by rfl, ?_⟩) ?_ ?_; rotate_left; (intro w'; go_simp; with_reducible rfl); rotate_left; (simp only [Act.put, List.setIfInBounds_toArray, List.set_cons_zero, List.set_cons_succ, i64_w, i32_w]; rfl))
           refine planEnd_ ?_
           refine plan_ [(11, 131)] ?_
           refine planT_ (v := ?_) (a' := ?_) rfl rfl (take_ofW HT_.out HW_.out (by kernel_rfl)) (fun _ _ _ h => h) (Or.inl ⟨by rfl, ?_⟩) hHeld ?_ ?_; rotate_left; (rintro w' hs_; obtain ⟨s0, s1, s2, s3, s4, s5, s6, s7, s8, s9, s10⟩ := hs_; go_simp; with_reducible rfl); rotate_left; (simp only [Act.put, List.setIfInBounds_toArray, List.set_cons_zero, List.set_cons_succ, i64_w, i32_w]; rfl)
           refine planEnd_ ?_
           refine plan_ [(12, 132), (13, 133)] ?_
           iterate 2 (refine planP_ (v := ?_) (a' := ?_) rfl rfl (any_of HT_.out (by kernel_rfl)) (fun _ _ _ h => h) (Or.inl ⟨by rfl, ?_⟩) ?_ ?_; rotate_left; (intro w'; go_simp; with_reducible rfl); rotate_left; (simp only [Act.put, List.setIfInBounds_toArray, List.set_cons_zero, List.set_cons_succ, i64_w, i32_w]; rfl))
           refine planEnd_ ?_
           refine plan_ [(14, 134)] ?_
           refine planT_ (v := ?_) (a' := ?_) rfl rfl (take_ofW HT_.out HW_.out (by kernel_rfl)) (fun _ _ _ h => h) (Or.inl ⟨by rfl, ?_⟩) hHeld ?_ ?_; rotate_left; (rintro w' hs_; obtain ⟨s0, s1, s2, s3, s4, s5, s6, s7, s8, s9, s10⟩ := hs_; go_simp; with_reducible rfl); rotate_left; (simp only [Act.put, List.setIfInBounds_toArray, List.set_cons_zero, List.set_cons_succ, i64_w, i32_w]; rfl)
           refine planEnd_ ?_
           refine plan_ [(15, 135), (16, 136)] ?_
           iterate 2 (refine planP_ (v := ?_) (a' := ?_) rfl rfl (any_of HT_.out (by kernel_rfl)) (fun _ _ _ h => h) (Or.inl ⟨by rfl, ?_⟩) ?_ ?_; rotate_left; (intro w'; go_simp; with_reducible rfl); rotate_left; (simp only [Act.put, List.setIfInBounds_toArray, List.set_cons_zero, List.set_cons_succ, i64_w, i32_w]; rfl))
           refine planEnd_ ?_
           refine plan_ [(17, 137)] ?_
           refine planT_ (v := ?_) (a' := ?_) rfl rfl (take_ofW HT_.out HW_.out (by kernel_rfl)) (fun _ _ _ h => h) (Or.inl ⟨by rfl, ?_⟩) hHeld ?_ ?_; rotate_left; (rintro w' hs_; obtain ⟨s0, s1, s2, s3, s4, s5, s6, s7, s8, s9, s10⟩ := hs_; go_simp; with_reducible rfl); rotate_left; (simp only [Act.put, List.setIfInBounds_toArray, List.set_cons_zero, List.set_cons_succ, i64_w, i32_w]; rfl)
           refine planEnd_ ?_
           refine plan_ [(18, 138), (19, 139)] ?_
           iterate 2 (refine planP_ (v := ?_) (a' := ?_) rfl rfl (any_of HT_.out (by kernel_rfl)) (fun _ _ _ h => h) (Or.inl ⟨by rfl, ?_⟩) ?_ ?_; rotate_left; (intro w'; go_simp; with_reducible rfl); rotate_left; (simp only [Act.put, List.setIfInBounds_toArray, List.set_cons_zero, List.set_cons_succ, i64_w, i32_w]; rfl))
           refine planEnd_ ?_
           refine plan_ [(20, 140)] ?_
           refine planT_ (v := ?_) (a' := ?_) rfl rfl (take_ofW HT_.out HW_.out (by kernel_rfl)) (fun _ _ _ h => h) (Or.inl ⟨by rfl, ?_⟩) hHeld ?_ ?_; rotate_left; (rintro w' hs_; obtain ⟨s0, s1, s2, s3, s4, s5, s6, s7, s8, s9, s10⟩ := hs_; go_simp; with_reducible rfl); rotate_left; (simp only [Act.put, List.setIfInBounds_toArray, List.set_cons_zero, List.set_cons_succ, i64_w, i32_w]; rfl)
           refine planEnd_ ?_
           refine plan_ [(21, 141), (22, 142)] ?_
           iterate 2 (refine planP_ (v := ?_) (a' := ?_) rfl rfl (any_of HT_.out (by kernel_rfl)) (fun _ _ _ h => h) (Or.inl ⟨by rfl, ?_⟩) ?_ ?_; rotate_left; (intro w'; go_simp; with_reducible rfl); rotate_left; (simp only [Act.put, List.setIfInBounds_toArray, List.set_cons_zero, List.set_cons_succ, i64_w, i32_w]; rfl))
           refine planEnd_ ?_
           refine plan_ [(23, 143)] ?_
           refine planT_ (v := ?_) (a' := ?_) rfl rfl (take_ofW HT_.out HW_.out (by kernel_rfl)) (fun _ _ _ h => h) (Or.inl ⟨by rfl, ?_⟩) hHeld ?_ ?_; rotate_left; (rintro w' hs_; obtain ⟨s0, s1, s2, s3, s4, s5, s6, s7, s8, s9, s10⟩ := hs_; go_simp; with_reducible rfl); rotate_left; (simp only [Act.put, List.setIfInBounds_toArray, List.set_cons_zero, List.set_cons_succ, i64_w, i32_w]; rfl)
           refine planEnd_ ?_
           refine plan_ [(24, 144), (25, 145)] ?_
           iterate 2 (refine planP_ (v := ?_) (a' := ?_) rfl rfl (any_of HT_.out (by kernel_rfl)) (fun _ _ _ h => h) (Or.inl ⟨by rfl, ?_⟩) ?_ ?_; rotate_left; (intro w'; go_simp; with_reducible rfl); rotate_left; (simp only [Act.put, List.setIfInBounds_toArray, List.set_cons_zero, List.set_cons_succ, i64_w, i32_w]; rfl))
           refine planEnd_ ?_
           refine plan_ [(26, 146)] ?_
           refine planT_ (v := ?_) (a' := ?_) rfl rfl (take_ofW HT_.out HW_.out (by kernel_rfl)) (fun _ _ _ h => h) (Or.inl ⟨by rfl, ?_⟩) hHeld ?_ ?_; rotate_left; (rintro w' hs_; obtain ⟨s0, s1, s2, s3, s4, s5, s6, s7, s8, s9, s10⟩ := hs_; go_simp; with_reducible rfl); rotate_left; (simp only [Act.put, List.setIfInBounds_toArray, List.set_cons_zero, List.set_cons_succ, i64_w, i32_w]; rfl)
           refine planEnd_ ?_
           refine plan_ [(27, 147), (28, 148)] ?_
           iterate 2 (refine planP_ (v := ?_) (a' := ?_) rfl rfl (any_of HT_.out (by kernel_rfl)) (fun _ _ _ h => h) (Or.inl ⟨by rfl, ?_⟩) ?_ ?_; rotate_left; (intro w'; go_simp; with_reducible rfl); rotate_left; (simp only [Act.put, List.setIfInBounds_toArray, List.set_cons_zero, List.set_cons_succ, i64_w, i32_w]; rfl))
           refine planEnd_ ?_
           refine plan_ [(29, 149)] ?_
           refine planT_ (v := ?_) (a' := ?_) rfl rfl (take_ofW HT_.out HW_.out (by kernel_rfl)) (fun _ _ _ h => h) (Or.inl ⟨by rfl, ?_⟩) hHeld ?_ ?_; rotate_left; (rintro w' hs_; obtain ⟨s0, s1, s2, s3, s4, s5, s6, s7, s8, s9, s10⟩ := hs_; go_simp; with_reducible rfl); rotate_left; (simp only [Act.put, List.setIfInBounds_toArray, List.set_cons_zero, List.set_cons_succ, i64_w, i32_w]; rfl)
           refine planEnd_ ?_
           refine plan_ [(30, 150), (31, 151)] ?_
           iterate 2 (refine planP_ (v := ?_) (a' := ?_) rfl rfl (any_of HT_.out (by kernel_rfl)) (fun _ _ _ h => h) (Or.inl ⟨by rfl, ?_⟩) ?_ ?_; rotate_left; (intro w'; go_simp; with_reducible rfl); rotate_left; (simp only [Act.put, List.setIfInBounds_toArray, List.set_cons_zero, List.set_cons_succ, i64_w, i32_w]; rfl))
           refine planEnd_ ?_
           refine plan_ [(32, 152)] ?_
           refine planT_ (v := ?_) (a' := ?_) rfl rfl (take_ofW HT_.out HW_.out (by kernel_rfl)) (fun _ _ _ h => h) (Or.inl ⟨by rfl, ?_⟩) hHeld ?_ ?_; rotate_left; (rintro w' hs_; obtain ⟨s0, s1, s2, s3, s4, s5, s6, s7, s8, s9, s10⟩ := hs_; go_simp; with_reducible rfl); rotate_left; (simp only [Act.put, List.setIfInBounds_toArray, List.set_cons_zero, List.set_cons_succ, i64_w, i32_w]; rfl)
           refine planEnd_ ?_
           refine plan_ [(33, 153)] ?_
           refine planP_ (v := ?_) (a' := ?_) rfl rfl (any_of HT_.out (by kernel_rfl)) (fun _ _ _ h => h) (Or.inl ⟨by rfl, ?_⟩) ?_ ?_; rotate_left; (intro w'; go_simp; with_reducible rfl); rotate_left; (simp only [Act.put, List.setIfInBounds_toArray, List.set_cons_zero, List.set_cons_succ, i64_w, i32_w]; rfl)
           refine planEnd_ ?_
           refine one_ (i := 34) (N := some 15) #[true, true, true, true, true, true, true, true, true, true, true, true, true, true, true, true, true, true, true, true, true, true, true, true, true, true, true, true, true, true, true, true, true, true, true, false] rfl rfl (one_of HT_.out (by kernel_rfl)) (by decide) (fun K hK => ?_)
           refine box_step ?hg (N := 15) ?hd (cs := #[.int .i64 0, .int .i64 0, .int .i64 0, .int .i64 0, .int .i64 0, .int .i64 0, .int .i64 0, .int .i64 0, .int .i64 0, .int .i64 0, .int .i64 0, .slice none 0 0]) (t := 100) ?hr ?_; (case hd => rfl); (case hg => rfl); (case hr => first | (go_simp; done) | (go_simp; rfl))
           intro gx hgx w2 hx2 hb2
           have HX := Aside0.mk hx2
           have HGX : Aside0 (gb < gx) := ⟨by rw [hgx]; exact blk_lt HD.out.blk⟩
           have n_ := Aside0.mk ((HD.out.mono (ok' := fun k => gb < k ∧ k < gx) (fun k hk hlt => ⟨hk, by rw [hgx]; exact hlt⟩) (fun k hk => hk.1)).go hb2)
           have hH2 := hHeld
           have m_ : Aside0 (∀ k o, wz.cell? ⟨g13, k, none⟩ = some o → w2.cell? ⟨g13, k, none⟩ = some o) := ⟨fun k o h => (hb2.cell (World.block_lt_of_cell? _ _ h)).trans h⟩
           clear HD; clear hx2; clear hb2; clear hgx; clear HB13
           have HD := n_
           clear n_
           refine hK.out _ _ (by obtain ⟨t0, t1, t2, t3, t4, t5, t6, t7, t8, t9, t10⟩ := hH2; exact ⟨m_.out _ _ t0, m_.out _ _ t1, m_.out _ _ t2, m_.out _ _ t3, m_.out _ _ t4, m_.out _ _ t5, m_.out _ _ t6, m_.out _ _ t7, m_.out _ _ t8, m_.out _ _ t9, m_.out _ _ t10⟩) (fun hHeld => ?_)
           clear hK; clear K
           refine norm_ (a' := ?_) ?_ ?_
           rotate_left
           ·show Act.put _ (some 15) _ = _
            simp only [Act.put, List.setIfInBounds_toArray, List.set_cons_zero, List.set_cons_succ, i64_w, i32_w]
            rfl
           refine last_ (i := 35) (N := none) #[true, true, true, true, true, true, true, true, true, true, true, true, true, true, true, true, true, true, true, true, true, true, true, true, true, true, true, true, true, true, true, true, true, true, true, true] rfl rfl (one_of HT_.out (by kernel_rfl)) (by decide) (fun K hK => ?_)
           clear m_; clear hH2
           have hz0 : World.cell? w2 ⟨gx, 0, none⟩ = some (.int .i64 0) := (blk_cell HX.out 0).trans rfl
           have hz1 : World.cell? w2 ⟨gx, 1, none⟩ = some (.int .i64 0) := (blk_cell HX.out 1).trans rfl
           have hz2 : World.cell? w2 ⟨gx, 2, none⟩ = some (.int .i64 0) := (blk_cell HX.out 2).trans rfl
           have hz3 : World.cell? w2 ⟨gx, 3, none⟩ = some (.int .i64 0) := (blk_cell HX.out 3).trans rfl
           have hz4 : World.cell? w2 ⟨gx, 4, none⟩ = some (.int .i64 0) := (blk_cell HX.out 4).trans rfl
           have hz5 : World.cell? w2 ⟨gx, 5, none⟩ = some (.int .i64 0) := (blk_cell HX.out 5).trans rfl
           have hz6 : World.cell? w2 ⟨gx, 6, none⟩ = some (.int .i64 0) := (blk_cell HX.out 6).trans rfl
           have hz7 : World.cell? w2 ⟨gx, 7, none⟩ = some (.int .i64 0) := (blk_cell HX.out 7).trans rfl
           have hz8 : World.cell? w2 ⟨gx, 8, none⟩ = some (.int .i64 0) := (blk_cell HX.out 8).trans rfl
           have hz9 : World.cell? w2 ⟨gx, 9, none⟩ = some (.int .i64 0) := (blk_cell HX.out 9).trans rfl
           have hz10 : World.cell? w2 ⟨gx, 10, none⟩ = some (.int .i64 0) := (blk_cell HX.out 10).trans rfl
           have hz11 : World.cell? w2 ⟨gx, 11, none⟩ = some (.slice none 0 0) := (blk_cell HX.out 11).trans rfl
           have hf0 := blk_frozen HX.out 0
           have hf1 := blk_frozen HX.out 1
           have hf2 := blk_frozen HX.out 2
           have hf3 := blk_frozen HX.out 3
           have hf4 := blk_frozen HX.out 4
           have hf5 := blk_frozen HX.out 5
           have hf6 := blk_frozen HX.out 6
           have hf7 := blk_frozen HX.out 7
           have hf8 := blk_frozen HX.out 8
           have hf9 := blk_frozen HX.out 9
           have hf10 := blk_frozen HX.out 10
           have hf11 := blk_frozen HX.out 11
           refine skip_ (w1 := ?_) (by rfl) rfl ?_ ?_
           rotate_left
           ·go_simp
            rfl
           refine hK.out _ _ ?_
           clear hK; clear K
           refine done_ (done_of HT_.out (by kernel_rfl)) ?_
           have hput := put12 HX.out (.int .i64 y_0) (.int .i64 y_1) (.int .i64 y_2) (.int .i64 y_3) (.int .i64 y_4) (.int .i64 y_5) (.int .i64 y_6) (.int .i64 y_7) (.int .i64 y_8) (.int .i64 y_9) (.int .i64 y_10) (.slice none 0 0)
           have hpu := puts12 w2 gx (.int .i64 y_0) (.int .i64 y_1) (.int .i64 y_2) (.int .i64 y_3) (.int .i64 y_4) (.int .i64 y_5) (.int .i64 y_6) (.int .i64 y_7) (.int .i64 y_8) (.int .i64 y_9) (.int .i64 y_10) (.slice none 0 0)
           generalize ((((((((((((w2.setCell ⟨gx, 0, none⟩ (.int .i64 y_0)).setCell ⟨gx, 1, none⟩ (.int .i64 y_1)).setCell ⟨gx, 2, none⟩ (.int .i64 y_2)).setCell ⟨gx, 3, none⟩ (.int .i64 y_3)).setCell ⟨gx, 4, none⟩ (.int .i64 y_4)).setCell ⟨gx, 5, none⟩ (.int .i64 y_5)).setCell ⟨gx, 6, none⟩ (.int .i64 y_6)).setCell ⟨gx, 7, none⟩ (.int .i64 y_7)).setCell ⟨gx, 8, none⟩ (.int .i64 y_8)).setCell ⟨gx, 9, none⟩ (.int .i64 y_9)).setCell ⟨gx, 10, none⟩ (.int .i64 y_10)).setCell ⟨gx, 11, none⟩ (.slice none 0 0)) = w4 at hput hpu ⊢
           have n_ := Aside0.mk (HD.out.ch (Ch.of_puts (S := fun k => k = gx) hpu rfl) (fun k hk => Or.inr ⟨by have := HGX.out; omega, by omega⟩) (HD.out.qr.go ((hpu 0 (Nat.zero_le _)).2.2 q (by have := HGX.out; have := HD.out.lo; omega))))
           clear HD; clear HX; clear hpu; clear hz0; clear hz1; clear hz2; clear hz3; clear hz4; clear hz5; clear hz6; clear hz7; clear hz8; clear hz9; clear hz10; clear hz11; clear hf0; clear hf1; clear hf2; clear hf3; clear hf4; clear hf5; clear hf6; clear hf7; clear hf8; clear hf9; clear hf10; clear hf11
           have HD := n_
           have HX := Aside0.mk hput
           clear n_; clear hput
           have HV6 : Aside0 (∀ k, v6.ownBlock = some k → k < gx) := ⟨fun k hk => (HD.out.o6.1 k hk).2⟩
           have HSR := Aside0.mk (HD.out.src.at_ HD.out.below)
           go_wp2_with (first | (go_at_call 64; (with_reducible refine (many_q 16 s _ HSR.out HD.out.qr).mono ?_); rintro e wm ⟨rfl, hr, hp⟩; rw [HM_mD.out] at hr ⊢; have m_ := Aside0.mk (((hp 0 (Nat.zero_le _)).2.2 gx (by have := HGX.out; have := HD.out.lo; omega)).trans HX.out); have n_ := Aside0.mk (HD.out.puts hr hp); clear HD HX HSR hr hp; have HD := n_; have HX := m_; clear n_ m_))
           go_loopg [16] mD.1.toNat (fun kq v16_ w' => ∃ (y : Int) (vd : Value) (D : List S102) (s : List Int × Bool), v16_ = .int .i64 y ∧ Aside0 (0 ≤ y ∧ y.toNat = kq ∧ D.length + kq ≤ 16) ∧ Aside0 (rLoop dDraw kq (s, false) D = TD) ∧ Aside0 (w'.heap[gx]? = some (.cells #[.int .i64 y_0, .int .i64 y_1, .int .i64 y_2, .int .i64 y_3, .int .i64 y_4, .int .i64 y_5, .int .i64 y_6, .int .i64 y_7, .int .i64 y_8, .int .i64 y_9, .int .i64 y_10, vd] 100 (0, 0))) ∧ Aside0 (Kd.R k102 102 w' w.heap.size (fun k => gx < k) vd D) ∧ Aside0 (QT w w.heap.size gb q c A l s s1.1 s2.1 s3.1 v3 v4 v5 v6 (.slice none 0 0) x3 x4 x5 x6 [] (fun k => gb < k ∧ k < gx) w'))
           case atStart => exact ⟨_, _, [], _, rfl, ⟨HN_mD.out.1, rfl, by have := HN_mD.out; simp; omega⟩, HTD, HX, ⟨Kd.R_nil _ _ _ _ _⟩, HD⟩
           case round =>
            clear HD; clear HX; clear HTD
            obtain ⟨y, vd, D, s, rfl, HID, HTD, HX, HV, HD⟩ := hrel
            by_cases d16 : 0 < y
            ·have d16b : decide (0 < y) = true := decide_eq_true d16
             obtain ⟨k3, rfl⟩ : ∃ k3, gk = k3 + 1 := ⟨gk - 1, by have := HID.out; omega⟩
             have ew2 : wrap64 (y - 1) = y - 1 := by have := HID.out; have := HN_mD.out; unfold wrap64; omega
             obtain ⟨st0, h_st0⟩ : ∃ t, rInt s = t := ⟨_, rfl⟩
             obtain ⟨st1, h_st1⟩ : ∃ t, rInt st0.2 = t := ⟨_, rfl⟩
             have H_st0 := Aside0.mk h_st0
             have H_st1 := Aside0.mk h_st1
             have hdec : dDraw (s, false) = ((⟨st0.1, st1.1⟩ : S102), (st1.2, false)) := by unfold dDraw; simp only [rInts, h_st0, h_st1]; rfl
             have HTD2 : Aside0 (rLoop dDraw k3 (st1.2, false) (D ++ [(⟨st0.1, st1.1⟩ : S102)]) = TD) := ⟨by have := HTD.out; rw [rLoop, hdec] at this; exact this⟩
             have HDL : Aside0 (D.length ≤ 16) := ⟨by have := HID.out; omega⟩
             clear d16; clear HTD; clear hdec; clear h_st0; clear h_st1
             have HSR := Aside0.mk (HD.out.src.at_ HD.out.below)
             go_upto_region 43 with (first | (go_at_call 63; (with_reducible refine (num_q s _ HSR.out HD.out.qr).mono ?_); rintro e wa ⟨rfl, hr, hp⟩; rw [H_st0.out] at hr ⊢; obtain ⟨at_, _, hq_⟩ := HD.out.qr.ex; have k_ := Aside0.mk (R_puts HV.out hq_ (by intro x hx; (have hx2 : x ∈ [102] := hx); simp at hx2; omega) hp); have m_ := Aside0.mk (((hp 0 (Nat.zero_le _)).2.2 gx (by have := HGX.out; have := HD.out.lo; omega)).trans HX.out); have n_ := Aside0.mk (HD.out.puts hr hp); clear HD HX HV HSR hr hp hq_; have HD := n_; have HX := m_; have HV := k_; clear n_ m_ k_))
             have HE : Aside0 ((World.alloc wa (.cells #[.int .i64 st0.1, .int .i64 0] 102 (0, 0))).heap[wa.heap.size]? = some (.cells #[.int .i64 st0.1, .int .i64 0] 102 (0, 0))) := ⟨heap_alloc_new wa _⟩
             have HGE : Aside0 (gx < wa.heap.size) := ⟨blk_lt HX.out⟩
             have n_ := Aside0.mk (HD.out.go (below_alloc (Below.refl wa.heap.size wa) (.cells #[.int .i64 st0.1, .int .i64 0] 102 (0, 0))))
             have m_ := Aside0.mk (blk_below HX.out (below_alloc (Below.refl wa.heap.size wa) (.cells #[.int .i64 st0.1, .int .i64 0] 102 (0, 0))))
             have k_ := Aside0.mk (Kd.R_below (Kd.R_mono (ok' := fun k => gx < k ∧ k ≠ wa.heap.size) (Kd.R_bound HV.out) (fun k hk => ⟨hk.1, by have := hk.2.2.1; omega⟩)) (below_alloc (Below.refl wa.heap.size wa) (.cells #[.int .i64 st0.1, .int .i64 0] 102 (0, 0))))
             clear HD; clear HX; clear HV
             have HD := n_
             have HX := m_
             have HV := k_
             clear n_; clear m_; clear k_
             obtain ⟨We, hWe⟩ : ∃ We, wa.alloc (.cells #[.int .i64 st0.1, .int .i64 0] 102 (0, 0)) = We := ⟨_, rfl⟩
             rw [hWe] at HD HX HV HE ⊢
             clear hWe
             generalize wa.heap.size = ge at HD HX HV HE HGE ⊢
             have HSR := Aside0.mk (HD.out.src.at_ HD.out.below)
             go_upto_region 44 with (first | (go_at_call 63; (with_reducible refine (num_q st0.2 _ HSR.out HD.out.qr).mono ?_); rintro e wb ⟨rfl, hr, hp⟩; rw [H_st1.out] at hr ⊢; obtain ⟨at_, _, hq_⟩ := HD.out.qr.ex; have k_ := Aside0.mk (R_puts HV.out hq_ (by intro x hx; (have hx2 : x ∈ [102] := hx); simp at hx2; omega) hp); have m_ := Aside0.mk (((hp 0 (Nat.zero_le _)).2.2 gx (by have := HGX.out; have := HD.out.lo; omega)).trans HX.out); have n_ := Aside0.mk (HD.out.puts hr hp); have l_ := Aside0.mk (((hp 0 (Nat.zero_le _)).2.2 ge (by have := HGX.out; have := HGE.out; have := HD.out.lo; omega)).trans HE.out); have hgz : World.cell? wb ⟨ge, 1, none⟩ = some (.int .i64 0) := (blk_cell l_.out 1).trans rfl; have hgf := blk_frozen l_.out 1; clear HD HX HV HE HSR hr hp hq_; have HD := n_; have HX := m_; have HV := k_; have HE := l_; clear n_ m_ k_ l_))
             have n_ := Aside0.mk (HD.out.far (g := ge) (j := 1) (by have := HGX.out; have := HGE.out; omega) (fun h => by have := h.2; have := HGE.out; omega) (.int .i64 st1.1))
             have m_ : Aside0 ((World.setCell wb ⟨ge, 1, none⟩ (.int .i64 st1.1)).heap[gx]? = _) := ⟨(Below.heap_setCell wb _ _ gx (by have := HGE.out; show gx ≠ ge; omega)).trans HX.out⟩
             have k_ := Aside0.mk (Kd.R_far (p := ⟨ge, 1, none⟩) HV.out (fun k hk => hk.2) (.int .i64 st1.1))
             have l_ : Aside0 ((World.setCell wb ⟨ge, 1, none⟩ (.int .i64 st1.1)).heap[ge]? = some (.cells #[.int .i64 st0.1, .int .i64 st1.1] 102 (0, 0))) := ⟨blk_put HE.out 1 _ (by simp)⟩
             clear HD; clear HX; clear HV; clear HE; clear hgz; clear hgf
             have HD := n_
             have HX := m_
             have HV := k_
             have HE := l_
             clear n_; clear m_; clear k_; clear l_
             generalize World.setCell wb _ _ = Wf at HD HX HV HE ⊢
             have hx0 : World.cell? Wf ⟨ge, 0, none⟩ = some (.int .i64 st0.1) := (blk_cell HE.out 0).trans rfl
             have hx1 : World.cell? Wf ⟨ge, 1, none⟩ = some (.int .i64 st1.1) := (blk_cell HE.out 1).trans rfl
             have hgv : World.cell? Wf ⟨gx, 11, none⟩ = some vd := (blk_cell HX.out 11).trans rfl
             go_wp2_with (first | ((with_reducible refine gate_builtin (b := .append) (xs := #[.tmp 167, .tmp 169]) rfl ?_); at_builtin; refine Kd.R_append k102 (w0 := Wf) w.heap.size rfl (.tmp 167) (.tmp 169) 98 102 (.agg #[(.int .i64 0), (.int .i64 0)]) 16 rfl Try.underlying98 sinfo102 rfl (by decide) (by omega) vd D (⟨st0.1, st1.1⟩ : S102) [.int .i64 st0.1, .int .i64 st1.1] (fun k => gx < k ∧ k ≠ ge) (fun _ => False) rfl rfl ?aP (fun _ hk => hk.elim) ?aF ?aO ?aB ?aS ?aL ?_; (case aP => exact k102_mkM _ _ _ _); (case aF => exact (fun k hk => ⟨by have := blk_lt HX.out; omega, by have := blk_lt HE.out; omega⟩)); (case aO => exact HV.out); (case aB => exact Below.refl _ _); (case aS => exact below_size HD.out.below); (case aL => have := HDL.out; omega); intro vn w3 ho hb hg hat; obtain ⟨Av, cv, ev⟩ := Kd.R_slice ho; subst ev; rw [show (D ++ [(⟨st0.1, st1.1⟩ : S102)]).length = D.length + 1 from List.length_append] at ho; have m_ := Aside0.mk (blk_grown HX.out hg (fun e_ => by have := (HV.out.1 _ e_.symm).1; omega)); have hgz : World.cell? w3 ⟨gx, 11, none⟩ = some vd := (blk_cell m_.out 11).trans rfl; have hgf := blk_frozen m_.out 11; have n_ := Aside0.mk (HD.out.ch (Ch.of_grown (S := fun k => vd.ownBlock = some k) hg (fun _ h => h)) (fun k hk => Or.inr ⟨by have := (HV.out.1 k hk).1; have := HGX.out; omega, fun h => by have := (HV.out.1 k hk).1; have := h.2; omega⟩) (HD.out.qr.go (hg.block q HD.out.qr.lt (fun e_ => by have := (HV.out.1 _ e_.symm).1; have := HGX.out; have := HD.out.lo; omega)))); clear HD HX HV HE hb hg hat; have HD := n_; have HX := m_; have HV := Aside0.mk ho; clear n_ m_ ho))
             have n_ := Aside0.mk (HD.out.far (g := gx) (j := 11) HGX.out (fun h => by have := h.2; omega) (.slice Av (D.length + 1) cv))
             have m_ : Aside0 ((World.setCell w3 ⟨gx, 11, none⟩ (.slice Av (D.length + 1) cv)).heap[gx]? = some (.cells #[.int .i64 y_0, .int .i64 y_1, .int .i64 y_2, .int .i64 y_3, .int .i64 y_4, .int .i64 y_5, .int .i64 y_6, .int .i64 y_7, .int .i64 y_8, .int .i64 y_9, .int .i64 y_10, .slice Av (D.length + 1) cv] 100 (0, 0))) := ⟨blk_put HX.out 11 _ (by simp)⟩
             have k_ := Aside0.mk (Kd.R_mono (ok' := fun k => gx < k) (Kd.R_far (p := ⟨gx, 11, none⟩) HV.out (fun k hk => by have := hk.1; show k ≠ gx; omega) (.slice Av (D.length + 1) cv)) (fun k hk => hk.1))
             clear HD; clear HX; clear HV
             have HD := n_
             have HX := m_
             have HV := k_
             clear n_; clear m_; clear k_
             go_roundg k3
             case measure => omega
             case rel => exact ⟨y - 1, _, D ++ [(⟨st0.1, st1.1⟩ : S102)], _, by rw [ew2], ⟨by have := HID.out; simp; omega⟩, HTD2, HX, HV, HD⟩
            ·have d16b : decide (0 < y) = false := decide_eq_false d16
             have hk0 : gk = 0 := by have := HID.out; omega
             subst hk0
             have hTD : TD = (D, ((s, false) : RS)) := HTD.out.symm
             subst hTD
             clear d16; clear HTD
             obtain ⟨x, hxe⟩ : ∃ x : S100, (⟨y_0, y_1, y_2, y_3, y_4, y_5, y_6, y_7, y_8, y_9, y_10, D⟩ : S100) = x := ⟨_, rfl⟩
             have HXE := Aside0.mk hxe
             rw [show (⟨y_0, y_1, y_2, y_3, y_4, y_5, y_6, y_7, y_8, y_9, y_10, ((D, ((s, false) : RS)) : List S102 × RS).1⟩ : S100) = x from hxe] at HT2
             clear hxe
             have hx0 : World.cell? wr ⟨gx, 0, none⟩ = some (.int .i64 y_0) := (blk_cell HX.out 0).trans rfl
             have hx1 : World.cell? wr ⟨gx, 1, none⟩ = some (.int .i64 y_1) := (blk_cell HX.out 1).trans rfl
             have hx2 : World.cell? wr ⟨gx, 2, none⟩ = some (.int .i64 y_2) := (blk_cell HX.out 2).trans rfl
             have hx3 : World.cell? wr ⟨gx, 3, none⟩ = some (.int .i64 y_3) := (blk_cell HX.out 3).trans rfl
             have hx4 : World.cell? wr ⟨gx, 4, none⟩ = some (.int .i64 y_4) := (blk_cell HX.out 4).trans rfl
             have hx5 : World.cell? wr ⟨gx, 5, none⟩ = some (.int .i64 y_5) := (blk_cell HX.out 5).trans rfl
             have hx6 : World.cell? wr ⟨gx, 6, none⟩ = some (.int .i64 y_6) := (blk_cell HX.out 6).trans rfl
             have hx7 : World.cell? wr ⟨gx, 7, none⟩ = some (.int .i64 y_7) := (blk_cell HX.out 7).trans rfl
             have hx8 : World.cell? wr ⟨gx, 8, none⟩ = some (.int .i64 y_8) := (blk_cell HX.out 8).trans rfl
             have hx9 : World.cell? wr ⟨gx, 9, none⟩ = some (.int .i64 y_9) := (blk_cell HX.out 9).trans rfl
             have hx10 : World.cell? wr ⟨gx, 10, none⟩ = some (.int .i64 y_10) := (blk_cell HX.out 10).trans rfl
             obtain ⟨Ad, cd, ed⟩ := Kd.R_slice HV.out
             subst ed
             have hx11 : World.cell? wr ⟨gx, 11, none⟩ = some (.slice Ad D.length cd) := (blk_cell HX.out 11).trans rfl
             have hgv : World.cell? wr ⟨gb, 6, none⟩ = some v6 := (blk_cell HD.out.blk 6).trans rfl
             have n_ := Aside0.mk (HD.out.mono (ok' := fun k => gb < k ∧ k ≠ gx) (fun k hk _ => ⟨hk.1, by have := hk.2; omega⟩) (fun k hk => hk.1))
             clear HD
             have HD := n_
             clear n_
             go_wp2_with (first | ((with_reducible refine gate_builtin (b := .append) (xs := #[.tmp 173, .tmp 175]) rfl ?_); at_builtin; refine Kd.R_append k100 (w0 := wr) w.heap.size rfl (.tmp 173) (.tmp 175) 65 100 (.agg #[(.int .i64 0), (.int .i64 0), (.int .i64 0), (.int .i64 0), (.int .i64 0), (.int .i64 0), (.int .i64 0), (.int .i64 0), (.int .i64 0), (.int .i64 0), (.int .i64 0), (.slice none 0 0)]) 112 rfl Try.underlying65 sinfo100 rfl (by decide) (by omega) v6 x6 x [.int .i64 y_0, .int .i64 y_1, .int .i64 y_2, .int .i64 y_3, .int .i64 y_4, .int .i64 y_5, .int .i64 y_6, .int .i64 y_7, .int .i64 y_8, .int .i64 y_9, .int .i64 y_10, .slice Ad D.length cd] (fun k => gb < k ∧ k ≠ gx) (fun k => gx < k) rfl rfl ?aP ?aK ?aF ?aO ?aB ?aS ?aL ?_; (case aP => exact (by rw [← HXE.out]; exact k100_mkM _ _ _ (⟨y_0, y_1, y_2, y_3, y_4, y_5, y_6, y_7, y_8, y_9, y_10, D⟩ : S100) HV.out)); (case aK => exact (fun k hk => ⟨⟨by have := HGX.out; omega, by omega⟩, fun he => by have := HV6.out k he.symm; omega⟩)); (case aF => exact (fun k hk => ⟨by have := blk_lt HD.out.blk; omega, by have := blk_lt HX.out; omega⟩)); (case aO => exact HD.out.o6); (case aB => exact Below.refl _ _); (case aS => exact below_size HD.out.below); (case aL => have := HOL.out; omega); intro vn w3 ho hb hg hat; obtain ⟨Av, cv, ev⟩ := Kd.R_slice ho; subst ev; rw [show (x6 ++ [x]).length = x6.length + 1 from List.length_append] at ho; have n_ := Aside0.mk (HD.out.set6 hg ho); have hgb := Aside0.mk (blk_grown HD.out.blk hg (fun e_ => by have := HD.out.okb _ (HD.out.o6.1 _ e_.symm); omega)); have hgz : World.cell? w3 ⟨gb, 6, none⟩ = some v6 := (blk_cell hgb.out 6).trans rfl; have hgf := blk_frozen hgb.out 6; clear HD ho hb hg hat hgb; have HD := n_; clear n_))
             have n_ := Aside0.mk (HD.out.mono (ok' := fun k => gb < k) (fun k hk _ => hk.1) (fun k hk => hk))
             clear HD
             have HD := n_
             clear n_
             go_roundg k1
             case measure => omega
             case rel => exact ⟨y6 - 1, _, x6 ++ [x], _, by first | rw [ew] | rfl, ⟨by have := HI6.out; simp; omega⟩, HT2, HD⟩
        ·have d6b : decide (0 < y6) = false := decide_eq_false d6
         have hk0 : gk = 0 := by have := HI6.out; omega
         subst hk0
         have HT2_TJ : Aside0 ((x6, ((s, false) : RS)) = TJ) := ⟨HT.out⟩
         clear d6; clear HT
         obtain ⟨mJe, h_e⟩ : ∃ t, s = t := ⟨_, rfl⟩
         rw [h_e] at HT2_TJ HD
         clear h_e; clear s
         obtain ⟨mK, h_mK⟩ : ∃ m, rMany 8 mJe = m := ⟨_, rfl⟩
         have HM_mK := Aside0.mk h_mK
         have HN_mK : Aside0 (0 ≤ mK.1 ∧ mK.1 ≤ 8) := ⟨by rw [← h_mK]; unfold rMany; split; (omega); (exact ⟨Int.le_refl _, (show (0 : Int) ≤ 8 by decide)⟩)⟩
         obtain ⟨TK, h_TK⟩ : ∃ T, rLoop dKey mK.1.toNat (mK.2, false) [] = T := ⟨_, rfl⟩
         have HT := Aside0.mk h_TK
         have HT_TK := Aside0.mk h_TK
         clear h_mK; clear h_TK
         have HSR := Aside0.mk (HD.out.src.at_ HD.out.below)
         go_wp2_with (first | (go_at_call 64; (with_reducible refine (many_q 8 mJe _ HSR.out HD.out.qr).mono ?_); rintro e wm ⟨rfl, hr, hp⟩; rw [HM_mK.out] at hr ⊢; have n_ := Aside0.mk (HD.out.puts hr hp); clear HD HSR hr hp; have HD := n_; clear n_))
         go_loopg [18] mK.1.toNat (fun kq v18_ w' => ∃ (y : Int) (v7 : Value) (x7 : List ByteArray) (s : List Int × Bool), v18_ = .int .i64 y ∧ Aside0 (0 ≤ y ∧ y.toNat = kq ∧ x7.length + kq ≤ 8) ∧ Aside0 (rLoop dKey kq (s, false) x7 = TK) ∧ Aside0 (QT w w.heap.size gb q c A l s s1.1 s2.1 s3.1 v3 v4 v5 v6 v7 x3 x4 x5 x6 x7 (fun k => gb < k) w'))
         case atStart => exact ⟨_, _, [], _, rfl, ⟨HN_mK.out.1, rfl, by have := HN_mK.out; simp; omega⟩, HT, HD⟩
         case round =>
          clear HD; clear HT
          obtain ⟨y7, v7, x7, s, rfl, HI7, HT, HD⟩ := hrel
          by_cases d7 : 0 < y7
          ·have d7b : decide (0 < y7) = true := decide_eq_true d7
           obtain ⟨k1, rfl⟩ : ∃ k1, gk = k1 + 1 := ⟨gk - 1, by have := HI7.out; omega⟩
           have ew : wrap64 (y7 - 1) = y7 - 1 := by have := HI7.out; unfold wrap64; omega
           have HSR := Aside0.mk (HD.out.src.at_ HD.out.below)
           obtain ⟨st0, h_st0⟩ : ∃ t, rText s 16 = t := ⟨_, rfl⟩
           have H_st0 := Aside0.mk h_st0
           obtain ⟨x, hx⟩ : ∃ x : ByteArray, x = strOfNums st0.1 := ⟨_, rfl⟩
           have hdec : dKey (s, false) = (x, (st0.2, false)) := by rw [hx]; unfold dKey; simp only [h_st0]
           have HT2 : Aside0 (rLoop dKey k1 (st0.2, false) (x7 ++ [x]) = TK) := ⟨by have := HT.out; rw [rLoop, hdec] at this; exact this⟩
           have HOL : Aside0 (x7.length ≤ 16) := ⟨by have := HI7.out; omega⟩
           have HXE := Aside0.mk hx
           clear d7; clear HT; clear hdec; clear hx; clear h_st0; clear HSR
           go_upto_region 49 with (fail)
           refine start_ (n := 8) (S := fun w' => w'.cell? ⟨gb, 7, none⟩ = some v7) (ds := [7]) #[false, false, false, false, false, false, false, false] (by kernel_rfl) rfl rfl ((blk_cell (HD.out.go (below_drew (Below.refl _ _))).blk 7).trans rfl) (fun hHeld => ?_); refine with_tabW RefK.tab49 RefK.bits49 (fun HT_ HW_ => ?_)
           have n_ := Aside0.mk (HD.out.go (below_drew (Below.refl _ _)))
           clear HD
           have HD := n_
           clear n_
           generalize World.drew _ = wz at HD hHeld ⊢
           have HSR := Aside0.mk (HD.out.src.at_ HD.out.below)
           refine plan_ [(0, 184)] ?_
           refine planP_ (v := ?_) (a' := ?_) rfl rfl (any_of HT_.out (by kernel_rfl)) (fun _ _ _ h => h) (Or.inl ⟨by rfl, ?_⟩) ?_ ?_; rotate_left; (intro w'; go_simp; with_reducible rfl); rotate_left; (simp only [Act.put, List.setIfInBounds_toArray, List.set_cons_zero, List.set_cons_succ, i64_w, i32_w]; rfl)
           refine planEnd_ ?_
           refine plan_ [(1, 185)] ?_
           refine planT_ (v := ?_) (a' := ?_) rfl rfl (take_ofW HT_.out HW_.out (by kernel_rfl)) (fun _ _ _ h => h) (Or.inl ⟨by rfl, ?_⟩) hHeld ?_ ?_; rotate_left; (rintro w' hs_; go_simp; with_reducible rfl); rotate_left; (simp only [Act.put, List.setIfInBounds_toArray, List.set_cons_zero, List.set_cons_succ, i64_w, i32_w]; rfl)
           refine planEnd_ ?_
           refine plan_ [(2, 186)] ?_
           refine planP_ (v := ?_) (a' := ?_) rfl rfl (any_of HT_.out (by kernel_rfl)) (fun _ _ _ h => h) (Or.inl ⟨by rfl, ?_⟩) ?_ ?_; rotate_left; (intro w'; go_simp; with_reducible rfl); rotate_left; (simp only [Act.put, List.setIfInBounds_toArray, List.set_cons_zero, List.set_cons_succ, i64_w, i32_w]; rfl)
           refine planEnd_ ?_
           refine one_ (i := 3) (N := some 187) #[true, true, true, true, false, false, false, false] rfl rfl (one_of HT_.out (by kernel_rfl)) (by decide) (fun K hK => ?_)
           refine goes_ Try.func65 (by kernel_rfl) rfl #[.pointer (some ⟨q, 0, none⟩)] (by rfl) rfl rfl mt ?_
           with_reducible refine (word_q s _ HSR.out HD.out.qr).mono ?_
           rintro e wq ⟨rfl, hr, hp⟩; rw [H_st0.out, ← HXE.out]; rw [H_st0.out] at hr; have n_ := Aside0.mk (HD.out.puts hr hp); clear HD HSR hr hp; have HD := n_; clear n_
           refine ⟨_, rfl, ?_⟩
           refine hK.out _ _ ((blk_cell HD.out.blk 7).trans rfl) (fun hHeld => ?_)
           clear hK; clear K
           refine norm_ (a' := ?_) ?_ ?_
           rotate_left
           ·show Act.put _ (some 187) _ = _
            simp only [Act.put, List.setIfInBounds_toArray, List.set_cons_zero, List.set_cons_succ, i64_w, i32_w]
            rfl
           refine one_ (i := 4) (N := some 188) #[true, true, true, true, true, false, false, false] rfl rfl (one_of HT_.out (by kernel_rfl)) (by decide) (fun K hK => ?_)
           refine Kd.R_lit_step Kd.string _ 9 ?hg (N := 188) ?hd (xs := ([x] : List ByteArray)) (inner := [.string x]) (ok := fun _ => True) (okp := fun _ => True) ?hr ?hp (fun _ hk => hk) trivial (Below.refl _ _) (Nat.le_refl _) (by simp) ?_; (case hd => rfl); (case hg => rfl); (case hr => first | (go_simp; done) | (go_simp; rfl)); (case hp => exact (Reps.snoc (p := x) (c := [.string x]) (Reps.none _ _) rfl rfl))
           intro v2 w2 ho2 hb2 hg_ hnew_
           clear hg_; clear hnew_
           have n_ := Aside0.mk (HD.out.go hb2)
           clear HD
           have HD := n_
           clear n_
           obtain ⟨A2, c2, e2, hc2, hC2⟩ := Kd.R_reads ho2
           subst e2
           have HC2 := Aside0.mk hC2
           clear hb2; clear ho2; clear hC2; clear hc2
           refine hK.out _ _ ((blk_cell HD.out.blk 7).trans rfl) (fun hHeld => ?_)
           clear hK; clear K
           refine norm_ (a' := ?_) ?_ ?_
           rotate_left
           ·show Act.put _ (some 188) _ = _
            simp only [Act.put, List.setIfInBounds_toArray, List.set_cons_zero, List.set_cons_succ, i64_w, i32_w]
            rfl
           refine one_ (i := 5) (N := some 189) #[true, true, true, true, true, true, false, false] rfl rfl (one_of HT_.out (by kernel_rfl)) (by decide) (fun K hK => ?_)
           refine Kd.R_append_rows_step Kd.string (w0 := w) w.heap.size (by rfl) (.tmp 185) (.tmp 188) 43 9 (.string (⟨#[]⟩ : ByteArray)) 16 rfl Try.underlying43 sinfo9 rfl (by decide) (by omega) v7 x7 ([x] : List ByteArray) _ _ _ (fun k => gb < k) (fun _ => False) rfl rfl ?aO ?aR (fun _ _ h => h) (fun _ h => h.elim) ?aF ?aB ?aS ?aL ?_
           (case aR => exact HC2.out)
           (case aB => exact HD.out.below)
           (case aF => exact (fun k_ hk => by have := blk_lt HD.out.blk; omega))
           (case aO => exact HD.out.o7)
           (case aS => exact below_size HD.out.below)
           (case aL => have := HOL.out; simp; omega)
           intro v3_ w3 ho hb hg hat
           obtain ⟨A3, cc3, e3⟩ := Kd.R_slice ho
           subst e3
           rw [show (x7 ++ [x]).length = x7.length + 1 from List.length_append] at ho
           have BK3 := Aside0.mk (blk_grown HD.out.blk hg (fun e_ => by have := HD.out.okb _ (HD.out.o7.1 _ e_.symm); omega))
           have n_ := Aside0.mk (HD.out.set7 hg ho)
           clear ho; clear hb; clear hg; clear hat; clear HD
           have HD := n_
           clear n_
           refine hK.out _ _ ((blk_cell BK3.out 7).trans rfl) (fun hHeld => ?_)
           clear hK; clear K
           refine norm_ (a' := ?_) ?_ ?_
           rotate_left
           ·show Act.put _ (some 189) _ = _
            simp only [Act.put, List.setIfInBounds_toArray, List.set_cons_zero, List.set_cons_succ, i64_w, i32_w]
            rfl
           refine plan_ [(6, 190)] ?_
           refine planP_ (v := ?_) (a' := ?_) rfl rfl (any_of HT_.out (by kernel_rfl)) (fun _ _ _ h => h) (Or.inl ⟨by rfl, ?_⟩) ?_ ?_; rotate_left; (intro w'; go_simp; with_reducible rfl); rotate_left; (simp only [Act.put, List.setIfInBounds_toArray, List.set_cons_zero, List.set_cons_succ, i64_w, i32_w]; rfl)
           refine planEnd_ ?_
           refine last_ (i := 7) (N := none) #[true, true, true, true, true, true, true, true] rfl rfl (one_of HT_.out (by kernel_rfl)) (by decide) (fun K hK => ?_)
           have hcl : w3.cell? ⟨gb, 7, none⟩ = some v7 := (blk_cell BK3.out 7).trans rfl
           have hfr := blk_frozen BK3.out 7
           refine skip_ (w1 := ?_) (by rfl) rfl ?_ ?_
           rotate_left
           ·go_simp
            rfl
           refine hK.out _ _ ?_
           clear hK; clear K
           refine done_ (done_of HT_.out (by kernel_rfl)) ?_
           try go_wp2
           go_roundg k1
           case measure => omega
           case rel => exact ⟨y7 - 1, _, x7 ++ [x], _, by first | rw [ew] | rfl, ⟨by have := HI7.out; simp; omega⟩, HT2, HD⟩
          ·have d7b : decide (0 < y7) = false := decide_eq_false d7
           have hk0 : gk = 0 := by have := HI7.out; omega
           subst hk0
           have HT2_TK : Aside0 ((x7, ((s, false) : RS)) = TK) := ⟨HT.out⟩
           clear d7; clear HT
           obtain ⟨mKe, h_e⟩ : ∃ t, s = t := ⟨_, rfl⟩
           rw [h_e] at HT2_TK HD
           clear h_e; clear s
           obtain ⟨at_, hats, hq_⟩ := HD.out.qr.ex
           have hend := hats.end_
           have e0 : rInts 3 (l, false) = ([s1.1, s2.1, s3.1], s3.2) := by simp only [rInts, H1.out, H2.out, H3.out]
           have eF : qF l = (x3, ((mFe, false) : RS)) := by
            unfold qF qList
            rw [e0]
            show rLoop dFund (rMany 8 s3.2).1.toNat ((rMany 8 s3.2).2, false) [] = _
            rw [HM_mF.out, HT_TF.out]
            exact HT2_TF.out.symm
           have eA : qA l = (x4, ((mAe, false) : RS)) := by
            unfold qA qList
            rw [eF]
            show rLoop dAlloc (rMany 16 mFe).1.toNat ((rMany 16 mFe).2, false) [] = _
            rw [HM_mA.out, HT_TA.out]
            exact HT2_TA.out.symm
           have eR : qR l = (x5, ((mRe, false) : RS)) := by
            unfold qR qList
            rw [eA]
            show rLoop dRate (rMany 16 mAe).1.toNat ((rMany 16 mAe).2, false) [] = _
            rw [HM_mR.out, HT_TR.out]
            exact HT2_TR.out.symm
           have eJ : qJ l = (x6, ((mJe, false) : RS)) := by
            unfold qJ qList
            rw [eR]
            show rLoop qJob (rMany 16 mRe).1.toNat ((rMany 16 mRe).2, false) [] = _
            rw [HM_mJ.out, HT_TJ.out]
            exact HT2_TJ.out.symm
           have eK : qK l = (x7, ((mKe, false) : RS)) := by
            unfold qK qList
            rw [eJ]
            show rLoop dKey (rMany 8 mJe).1.toNat ((rMany 8 mJe).2, false) [] = _
            rw [HM_mK.out, HT_TK.out]
            exact HT2_TK.out.symm
           have HHd : refF l = (if rEnd mKe = true then (s1.1, s2.1, s3.1, x3, x4, x5, x6, x7, 0) else snapBad) := by unfold refF; rw [eK, e0, eF, eA, eR, eJ]; rfl
           have HH2 := HH.out
           rw [HHd] at HH2
           clear HHd; clear HH; clear e0; clear eF; clear eA; clear eR; clear eJ; clear eK
           obtain ⟨Av3, cv3, ev3⟩ := Kd.R_slice HD.out.o3
           subst ev3
           obtain ⟨Av4, cv4, ev4⟩ := Kd.R_slice HD.out.o4
           subst ev4
           obtain ⟨Av5, cv5, ev5⟩ := Kd.R_slice HD.out.o5
           subst ev5
           obtain ⟨Av6, cv6, ev6⟩ := Kd.R_slice HD.out.o6
           subst ev6
           obtain ⟨Av7, cv7, ev7⟩ := Kd.R_slice HD.out.o7
           subst ev7
           have hzq : World.cell? wr ⟨q, 1, none⟩ = some (.int .i64 at_) := (blk_cell hq_ 1).trans rfl
           have hz0 : World.cell? wr ⟨w.heap.size, 0, none⟩ = some (.int .i64 0) := (blk_cell HD.out.res 0).trans rfl
           have hf0 := blk_frozen HD.out.res 0
           have hz1 : World.cell? wr ⟨w.heap.size, 1, none⟩ = some (.int .i64 0) := (blk_cell HD.out.res 1).trans rfl
           have hf1 := blk_frozen HD.out.res 1
           have hz2 : World.cell? wr ⟨w.heap.size, 2, none⟩ = some (.int .i64 0) := (blk_cell HD.out.res 2).trans rfl
           have hf2 := blk_frozen HD.out.res 2
           have hz3 : World.cell? wr ⟨w.heap.size, 3, none⟩ = some (.slice none 0 0) := (blk_cell HD.out.res 3).trans rfl
           have hf3 := blk_frozen HD.out.res 3
           have hz4 : World.cell? wr ⟨w.heap.size, 4, none⟩ = some (.slice none 0 0) := (blk_cell HD.out.res 4).trans rfl
           have hf4 := blk_frozen HD.out.res 4
           have hz5 : World.cell? wr ⟨w.heap.size, 5, none⟩ = some (.slice none 0 0) := (blk_cell HD.out.res 5).trans rfl
           have hf5 := blk_frozen HD.out.res 5
           have hz6 : World.cell? wr ⟨w.heap.size, 6, none⟩ = some (.slice none 0 0) := (blk_cell HD.out.res 6).trans rfl
           have hf6 := blk_frozen HD.out.res 6
           have hz7 : World.cell? wr ⟨w.heap.size, 7, none⟩ = some (.slice none 0 0) := (blk_cell HD.out.res 7).trans rfl
           have hf7 := blk_frozen HD.out.res 7
           have hy0 : World.cell? wr ⟨gb, 0, none⟩ = some (.int .i64 s1.1) := (blk_cell HD.out.blk 0).trans rfl
           have hy1 : World.cell? wr ⟨gb, 1, none⟩ = some (.int .i64 s2.1) := (blk_cell HD.out.blk 1).trans rfl
           have hy2 : World.cell? wr ⟨gb, 2, none⟩ = some (.int .i64 s3.1) := (blk_cell HD.out.blk 2).trans rfl
           have hy3 : World.cell? wr ⟨gb, 3, none⟩ = some (.slice Av3 x3.length cv3) := (blk_cell HD.out.blk 3).trans rfl
           have hy4 : World.cell? wr ⟨gb, 4, none⟩ = some (.slice Av4 x4.length cv4) := (blk_cell HD.out.blk 4).trans rfl
           have hy5 : World.cell? wr ⟨gb, 5, none⟩ = some (.slice Av5 x5.length cv5) := (blk_cell HD.out.blk 5).trans rfl
           have hy6 : World.cell? wr ⟨gb, 6, none⟩ = some (.slice Av6 x6.length cv6) := (blk_cell HD.out.blk 6).trans rfl
           have hy7 : World.cell? wr ⟨gb, 7, none⟩ = some (.slice Av7 x7.length cv7) := (blk_cell HD.out.blk 7).trans rfl
           clear hq_; clear hats
           by_cases ce : at_ = (l.length : Int)
           ·have ceb : (at_ == (l.length : Int)) = true := beq_iff_eq.mpr ce
            have cen : (at_ != (l.length : Int)) = false := bne_eq_false_iff_eq.mpr ce
            have HX : ((s1.1, s2.1, s3.1, x3, x4, x5, x6, x7, 0) : SnapT) = (r1, r2, r3, r4, r5, r6, r7, r8, r9) := by rw [hend, ceb, if_pos rfl] at HH2; exact HH2
            simp only [Prod.mk.injEq] at HX
            obtain ⟨rfl, rfl, rfl, rfl, rfl, rfl, rfl, rfl, rfl⟩ := HX
            clear HH2; clear ce; clear hend
            go_wp2_with (fail)
            have hput := put8 HD.out.res (.int .i64 s1.1) (.int .i64 s2.1) (.int .i64 s3.1) (.slice Av3 x3.length cv3) (.slice Av4 x4.length cv4) (.slice Av5 x5.length cv5) (.slice Av6 x6.length cv6) (.slice Av7 x7.length cv7)
            have hpu := puts8 wr w.heap.size (.int .i64 s1.1) (.int .i64 s2.1) (.int .i64 s3.1) (.slice Av3 x3.length cv3) (.slice Av4 x4.length cv4) (.slice Av5 x5.length cv5) (.slice Av6 x6.length cv6) (.slice Av7 x7.length cv7)
            generalize ((((((((wr.setCell ⟨w.heap.size, 0, none⟩ (.int .i64 s1.1)).setCell ⟨w.heap.size, 1, none⟩ (.int .i64 s2.1)).setCell ⟨w.heap.size, 2, none⟩ (.int .i64 s3.1)).setCell ⟨w.heap.size, 3, none⟩ (.slice Av3 x3.length cv3)).setCell ⟨w.heap.size, 4, none⟩ (.slice Av4 x4.length cv4)).setCell ⟨w.heap.size, 5, none⟩ (.slice Av5 x5.length cv5)).setCell ⟨w.heap.size, 6, none⟩ (.slice Av6 x6.length cv6)).setCell ⟨w.heap.size, 7, none⟩ (.slice Av7 x7.length cv7)) = wz at hput hpu ⊢
            refine bodyPost_ret (results_ct rfl _ wz w.heap.size 67 #[.int .i64 s1.1, .int .i64 s2.1, .int .i64 s3.1, .slice Av3 x3.length cv3, .slice Av4 x4.length cv4, .slice Av5 x5.length cv5, .slice Av6 x6.length cv6, .slice Av7 x7.length cv7] (0, 0) _ rfl hput Try.underlying67 rfl (by kernel_rfl)) rfl ?_
            have hlo := HD.out.lo
            have hk := (hpu 0 (Nat.zero_le _)).2.2
            exact ⟨_, _, _, _, _, rfl, Kd.R_mono (Kd.R_step HD.out.o3 (fun k (ho : gb < k) _ => hk k (by omega))) (fun _ _ => trivial), Kd.R_mono (Kd.R_step HD.out.o4 (fun k (ho : gb < k) _ => hk k (by omega))) (fun _ _ => trivial), Kd.R_mono (Kd.R_step HD.out.o5 (fun k (ho : gb < k) _ => hk k (by omega))) (fun _ _ => trivial), Kd.R_mono (Kd.R_step HD.out.o6 (fun k (ho : gb < k) _ => hk k (by omega))) (fun _ _ => trivial), Kd.R_mono (Kd.R_step HD.out.o7 (fun k (ho : gb < k) _ => hk k (by omega))) (fun _ _ => trivial), hpu.below (Nat.le_refl _) HD.out.below⟩
           ·have ceb : (at_ == (l.length : Int)) = false := beq_eq_false_iff_ne.mpr ce
            have cen : (at_ != (l.length : Int)) = true := bne_iff_ne.mpr ce
            have HX : snapBad = (r1, r2, r3, r4, r5, r6, r7, r8, r9) := by rw [hend, ceb, if_neg (by simp)] at HH2; exact HH2
            simp only [snapBad, Prod.mk.injEq] at HX
            obtain ⟨rfl, rfl, rfl, rfl, rfl, rfl, rfl, rfl, rfl⟩ := HX
            clear HH2; clear ce; clear hend
            go_wp2_with (fail)
            refine bodyPost_ret (results_ct rfl _ _ w.heap.size 67 #[.int .i64 0, .int .i64 0, .int .i64 0, .slice none 0 0, .slice none 0 0, .slice none 0 0, .slice none 0 0, .slice none 0 0] (0, 0) _ rfl (put8 HD.out.res _ _ _ _ _ _ _ _) Try.underlying67 rfl (by kernel_rfl)) rfl ?_
            exact ⟨_, _, _, _, _, rfl, Kd.R_nil _ _ _ _ _, Kd.R_nil _ _ _ _ _, Kd.R_nil _ _ _ _ _, Kd.R_nil _ _ _ _ _, Kd.R_nil _ _ _ _ _, (puts8 _ _ _ _ _ _ _ _ _ _).below (Nat.le_refl _) HD.out.below⟩
def prebendref13_Decode.f (l0 : List Int) : Option (Int × Int × Int × List (S93) × List (S95) × List (S97) × List (S100) × List (ByteArray) × Int) := if l0.length < 140737488355328 ∧ ∀ x ∈ l0, 0 ≤ x ∧ x ≤ 255 then some (refF l0) else none
theorem prebendref13_Decode.calls (A0 : Option Addr) (c0 : Nat) (l0 : List Int) (r1 : Int) (r2 : Int) (r3 : Int) (r4 : List (S93)) (r5 : List (S95)) (r6 : List (S97)) (r7 : List (S100)) (r8 : List (ByteArray)) (r9 : Int) (w : World) (hr0 : Kd.C (Kd.int .u8) w A0 l0.length l0) (hc0 : l0.length ≤ c0) (h : prebendref13_Decode.f l0 = some (r1, r2, r3, r4, r5, r6, r7, r8, r9)) :
  Calls Try.prog 37 #[.slice A0 l0.length c0] w fun e w' => ∃ v3_ v4_ v5_ v6_ v7_ : Value, e = .returned (.tuple #[.agg #[.int .i64 r1, .int .i64 r2, .int .i64 r3, v3_, v4_, v5_, v6_, v7_], .int .i64 r9]) ∧ Kd.R k93 93 w' w.heap.size (fun _ => True) v3_ r4 ∧ Kd.R k95 95 w' w.heap.size (fun _ => True) v4_ r5 ∧ Kd.R k97 97 w' w.heap.size (fun _ => True) v5_ r6 ∧ Kd.V k100 100 w' w.heap.size (fun k_ => (w.heap.size ≤ k_) ∧ some k_ ≠ v3_.ownBlock ∧ some k_ ≠ v4_.ownBlock ∧ some k_ ≠ v5_.ownBlock ∧ some k_ ≠ v7_.ownBlock) v6_ r7 ∧ Kd.R Kd.string 9 w' w.heap.size (fun _ => True) v7_ r8 ∧ Below w.heap.size w w' := by
 unfold prebendref13_Decode.f at h
 have hc : l0.length < 140737488355328 ∧ ∀ x ∈ l0, 0 ≤ x ∧ x ≤ 255 := Decidable.byContradiction fun c => by rw [if_neg c] at h; simp at h
 rw [if_pos hc] at h
 refine (ref_Dec.at_ A0 c0 l0 w ⟨hr0, hc0, hc.2, hc.1⟩ r1 r2 r3 r4 r5 r6 r7 r8 r9 (Option.some.inj h)).mono (fun e w' hx => ?_)
 obtain ⟨v3_, v4_, v5_, v6_, v7_, he, h3, h4, h5, h6, h7, hb⟩ := hx
 exact ⟨v3_, v4_, v5_, v6_, v7_, he, h3, h4, h5, Kd.R_V (Kd.R_mono (Kd.R_bound h6) (fun k hk => by
  obtain ⟨_, hb_, _, q, hq, cells, hc_⟩ := hk
  have hq2 : q = 100 ∨ q = 102 := by
   have hq3 : q ∈ [100, 102] := hq
   simpa using hq3
  exact ⟨hb_, Kd.R_ne h3 hc_ (by omega), Kd.R_ne h4 hc_ (by omega), Kd.R_ne h5 hc_ (by omega), Kd.R_ne h7 hc_ (by omega)⟩)), h7, hb⟩
end Go.Proofs.Ytjmkpcnekghmhaa.PAll
end
