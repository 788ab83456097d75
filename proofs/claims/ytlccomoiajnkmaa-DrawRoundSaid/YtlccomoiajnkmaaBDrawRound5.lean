/- Draws that are liened, charged, spent and given back: the ledger takes each step, what is spent is just the charge, and back it is as it was: for all funds, allocations and numbers that a call may be handed; no conditions. -/
import Derived.Test.YtlccomoiajnkmaaBDrawRound4
import Derived.Deep.Slices
import Derived.Deep.Fields
import Derived.ChangeSame
import Derived.ChangeArms
import Derived.OpenShut
import Derived.Test.YtlccomoiajnkmaaRows
import Derived.ProofKit
import Derived.ShutString
import Derived.ChangeOld
import Derived.Carry
section
set_option linter.unusedVariables false
set_option linter.unusedSimpArgs false
namespace Go.Proofs.Ytlccomoiajnkmaa.Pure
open Go Go.RowKit Go.Proofs.Ytlccomoiajnkmaa.PAll Go.Proofs.YtlccomoiajnkmaaW.PrintWords Go.Proofs.YtlccomoiajnkmaaW.PrintLast

def fitB (n : Int) : Bool := decide (-1152921504606846976 ≤ n) && decide (n ≤ 1152921504606846976)
theorem fitB_iff (n : Int) : fitB n = true ↔ -1152921504606846976 ≤ n ∧ n ≤ 1152921504606846976 := by simp [fitB]
theorem rd_drop (l : List Int) (i : Nat) (h : i < l.length) : l.drop i = rd l (i : Int) :: l.drop (i + 1) := by
  rw [List.drop_eq_getElem_cons h]; simp [rd, h]
theorem wrap_id (n : Int) (h : -9223372036854775808 ≤ n) (h2 : n < 9223372036854775808) : wrap64 n = n := by unfold wrap64; omega

theorem fits_eq (n : Int) : money_fits.f n = some (fitB n) := by
  unfold money_fits.f fitB
  by_cases h : n ≥ -1152921504606846976
  · rw [if_pos h]; simp [h]
  · rw [if_neg h]; simp [h]

def addS : Int → List Int → Int × Int
  | s, [] => (s, 0)
  | s, x :: xs => if fitB x && fitB (s + x) then addS (s + x) xs else (0, 2)

theorem add_l0 (l : List Int) (hl : l.length < 9223372036854775807) (d : Nat) : ∀ (k i : Nat) (s : Int), l.length - i = d → i ≤ l.length → d < k → fitB s = true →
    money_Add.l0 k s l (l.length : Int) (i : Int) = some (addS s (l.drop i)) := by
  induction d with
  | zero =>
    intro k i s hd hi hk hs
    obtain ⟨k, rfl⟩ : ∃ m, k = m + 1 := ⟨k - 1, by omega⟩
    have : i = l.length := by omega
    subst this
    simp only [money_Add.l0]
    rw [if_neg (by omega)]; simp [addS]
  | succ d ih =>
    intro k i s hd hi hk hs
    obtain ⟨k, rfl⟩ : ∃ m, k = m + 1 := ⟨k - 1, by omega⟩
    simp only [money_Add.l0]
    rw [if_pos (by omega), if_pos (by omega), if_pos (by omega), rd_drop l i (by omega), fits_eq]
    simp only [Option.bind_some, addS]
    have hs' := (fitB_iff s).1 hs
    by_cases h1 : fitB (rd l i) = true
    · rw [if_pos h1]
      have h1' := (fitB_iff _).1 h1
      rw [wrap_id (s + rd l i) (by omega) (by omega), fits_eq]
      simp only [Option.bind_some, h1, Bool.true_and]
      by_cases h2 : fitB (s + rd l i) = true
      · rw [if_pos h2, if_pos h2, wrap_id (↑i + 1) (by omega) (by omega)]
        exact ih k (i + 1) _ (by omega) (by omega) (by omega) h2
      · rw [if_neg h2, if_neg h2]
    · rw [if_neg h1]
      simp [h1]
theorem add_eq (l : List Int) (hl : l.length < 9223372036854775807) (k : Nat) (hk : l.length < k) : money_Add.f k l = some (addS 0 l) := by
  have := add_l0 l hl l.length k 0 0 (by omega) (by omega) hk (by decide)
  simpa [money_Add.f] using this

section SortA
variable {α : Type}
structure TP (le : α → α → Bool) : Prop where
  total : ∀ a b, le a b = true ∨ le b a = true
  trans : ∀ {a b c}, le a b = true → le b c = true → le a c = true
def eqv (le : α → α → Bool) (a b : α) : Bool := le a b && le b a
def SEq (le : α → α → Bool) (xs ys : List α) : Prop := ∀ c, xs.filter (eqv le c) = ys.filter (eqv le c)
abbrev Srt (le : α → α → Bool) (xs : List α) : Prop := xs.Pairwise (fun a b => le a b = true)
variable {le : α → α → Bool}
theorem TP.refl (h : TP le) (a : α) : le a a = true := by rcases h.total a a with h | h <;> exact h
theorem TP.of_not (h : TP le) {a b : α} (hn : le a b = false) : le b a = true := by
  rcases h.total a b with h1 | h1
  · rw [hn] at h1; cases h1
  · exact h1
theorem SEq.refl (xs : List α) : SEq le xs xs := fun _ => rfl
theorem SEq.symm {xs ys : List α} (h : SEq le xs ys) : SEq le ys xs := fun c => (h c).symm
theorem SEq.trans {xs ys zs : List α} (h : SEq le xs ys) (h2 : SEq le ys zs) : SEq le xs zs := fun c => (h c).trans (h2 c)
theorem SEq.append {xs ys xs' ys' : List α} (h : SEq le xs ys) (h2 : SEq le xs' ys') : SEq le (xs ++ xs') (ys ++ ys') := fun c => by
  rw [List.filter_append, List.filter_append, h c, h2 c]
theorem SEq.cons (x : α) {xs ys : List α} (h : SEq le xs ys) : SEq le (x :: xs) (x :: ys) := fun c => by
  rw [List.filter_cons, List.filter_cons, h c]
theorem SEq.mem (ht : TP le) {xs ys : List α} (h : SEq le xs ys) {x : α} (hx : x ∈ xs) : x ∈ ys := by
  have h1 : x ∈ xs.filter (eqv le x) := List.mem_filter.2 ⟨hx, by simp [eqv, ht.refl]⟩
  rw [h x] at h1
  exact (List.mem_filter.1 h1).1
theorem SEq.swap (ht : TP le) {A B : List α} (h : ∀ a ∈ A, ∀ b ∈ B, le a b = false) : SEq le (A ++ B) (B ++ A) := fun c => by
  rw [List.filter_append, List.filter_append]
  by_cases hA : A.filter (eqv le c) = []
  · rw [hA]; simp
  · have hB : B.filter (eqv le c) = [] := by
      rw [List.filter_eq_nil_iff]
      intro b hb hcb
      obtain ⟨a, ha⟩ := List.exists_mem_of_ne_nil _ hA
      obtain ⟨ha, hca⟩ := List.mem_filter.1 ha
      simp only [eqv, Bool.and_eq_true] at hca hcb
      have := h a ha b hb
      rw [ht.trans hca.2 hcb.1] at this
      cases this
    rw [hB]; simp
theorem SEq.uniq (ht : TP le) : ∀ {xs ys : List α}, Srt le xs → Srt le ys → SEq le xs ys → xs = ys
  | [], [], _, _, _ => rfl
  | [], y :: ys, _, _, h => by have := SEq.mem ht (SEq.symm h) (List.mem_cons_self (a := y)); simp at this
  | x :: xs, [], _, _, h => by have := SEq.mem ht h (List.mem_cons_self (a := x)); simp at this
  | x :: xs, y :: ys, hx, hy, h => by
    have hx' := List.pairwise_cons.1 hx
    have hy' := List.pairwise_cons.1 hy
    have h1 : le y x = true := by
      rcases List.mem_cons.1 (SEq.mem ht h (List.mem_cons_self (a := x))) with e | e
      · rw [e]; exact ht.refl _
      · exact hy'.1 _ e
    have h2 : le x y = true := by
      rcases List.mem_cons.1 (SEq.mem ht (SEq.symm h) (List.mem_cons_self (a := y))) with e | e
      · rw [e]; exact ht.refl _
      · exact hx'.1 _ e
    have h3 := h x
    rw [List.filter_cons, List.filter_cons, if_pos (by simp [eqv, ht.refl]), if_pos (by simp [eqv, h1, h2])] at h3
    have h4 : x = y := by injection h3
    subst h4
    rw [SEq.uniq ht hx'.2 hy'.2 (fun c => by
      have h5 := h c
      rw [List.filter_cons, List.filter_cons] at h5
      split at h5
      · injection h5
      · exact h5)]
def ins (le : α → α → Bool) (x : α) : List α → List α
  | [] => [x]
  | y :: ys => if le x y = true then x :: y :: ys else y :: ins le x ys
def isort (le : α → α → Bool) : List α → List α
  | [] => []
  | x :: xs => ins le x (isort le xs)
theorem ins_perm (x : α) : ∀ ys : List α, (ins le x ys).Perm (x :: ys)
  | [] => .refl _
  | y :: ys => by
    unfold ins
    split
    · exact .refl _
    · exact ((ins_perm x ys).cons y).trans (.swap x y ys)
theorem isort_perm : ∀ xs : List α, (isort le xs).Perm xs
  | [] => .refl _
  | x :: xs => (ins_perm x _).trans ((isort_perm xs).cons x)
theorem ins_srt (ht : TP le) (x : α) : ∀ {ys : List α}, Srt le ys → Srt le (ins le x ys)
  | [], _ => by simp [ins]
  | y :: ys, h => by
    have h' := List.pairwise_cons.1 h
    unfold ins
    split
    · next hxy => exact List.pairwise_cons.2 ⟨fun z hz => by
        rcases List.mem_cons.1 hz with rfl | hz
        · exact hxy
        · exact ht.trans hxy (h'.1 z hz), h⟩
    · next hxy => exact List.pairwise_cons.2 ⟨fun z hz => by
        rcases List.mem_cons.1 ((ins_perm x ys).mem_iff.1 hz) with rfl | hz
        · exact ht.of_not (by simpa using hxy)
        · exact h'.1 z hz, ins_srt ht x h'.2⟩
theorem isort_srt (ht : TP le) : ∀ xs : List α, Srt le (isort le xs)
  | [] => .nil
  | x :: xs => ins_srt ht x (isort_srt ht xs)
theorem ins_seq (ht : TP le) (x : α) : ∀ ys : List α, SEq le (ins le x ys) (x :: ys)
  | [] => .refl _
  | y :: ys => by
    unfold ins
    split
    · exact .refl _
    · next hxy =>
      refine ((ins_seq ht x ys).cons y).trans ?_
      have := SEq.swap (le := le) ht (A := [x]) (B := [y]) (fun a ha b hb => by simp at ha hb; subst ha; subst hb; simpa using hxy)
      exact (SEq.append this (SEq.refl ys)).symm
theorem isort_seq (ht : TP le) : ∀ xs : List α, SEq le (isort le xs) xs
  | [] => .refl _
  | x :: xs => (ins_seq ht x _).trans ((isort_seq ht xs).cons x)
theorem isort_eq (ht : TP le) {xs ys : List α} (h : Srt le ys) (h2 : SEq le ys xs) : ys = isort le xs :=
  SEq.uniq ht h (isort_srt ht xs) (h2.trans (isort_seq ht xs).symm)
end SortA
section SortB
variable {α : Type} {d : α} {le : α → α → Bool} {cmp : α → α → Option Int}
theorem wr_ (n : Int) (h : -9223372036854775808 ≤ n) (h2 : n < 9223372036854775808) : wrap64 n = n := by unfold wrap64; omega
theorem gt_ (p q : List α) (x : α) (i : Int) (hi : i = p.length) : (p ++ x :: q).getD i.toNat d = x := by
  subst hi; simp [List.getD_eq_getElem?_getD]
theorem st_ (p q : List α) (x v : α) (i : Int) (hi : i = p.length) : (p ++ x :: q).set i.toNat v = p ++ v :: q := by
  subst hi; simp
theorem swp'_ (p m q : List α) (x y : α) (i j : Int) (hi : i = p.length) (hj : j = p.length + 1 + m.length) : ((p ++ x :: (m ++ y :: q)).set j.toNat x).set i.toNat y = p ++ y :: (m ++ x :: q) := by
  have := st_ (p ++ x :: m) q y x j (by simp; omega)
  rw [show p ++ x :: (m ++ y :: q) = (p ++ x :: m) ++ y :: q by simp, this, show (p ++ x :: m) ++ x :: q = p ++ x :: (m ++ x :: q) by simp, st_ p _ x y i hi]
theorem isort_congr (ht : TP le) {xs ys : List α} (h : SEq le xs ys) : isort le xs = isort le ys :=
  isort_eq ht (isort_srt ht xs) ((isort_seq ht xs).trans h)
theorem srt_isort (ht : TP le) {xs : List α} (h : Srt le xs) : isort le xs = xs := (isort_eq ht h (SEq.refl _)).symm
theorem isort_len (xs : List α) : (isort le xs).length = xs.length := (isort_perm xs).length_eq
theorem eq_of_len0 {xs : List α} (h : xs.length = 0) : xs = [] := List.length_eq_zero_iff.1 h

def Cmp (le : α → α → Bool) (cmp : α → α → Option Int) : Prop := ∀ x y, ∃ t, cmp x y = some t ∧ (t < 0 ↔ le y x = false)

structure InsF (d : α) (cmp : α → α → Option Int) (l0 : Nat → List α → Int → Int → Int → Option (List α)) (l1 : Nat → List α → Int → Int → Int → Int → Option (List α)) : Prop where
  e0 : ∀ k xs a b i, l0 (k + 1) xs a b i = if i < b then l1 k xs a b i i else some xs
  e1 : ∀ k xs a b i j, l1 (k + 1) xs a b i j = if j > a then (if 0 ≤ j then (if j < (xs.length : Int) then (if 0 ≤ (wrap64 (j - 1)) then (if (wrap64 (j - 1)) < (xs.length : Int) then
      ((cmp (xs.getD j.toNat d) (xs.getD (wrap64 (j - 1)).toNat d)).bind fun t => (if t < 0 then (l1 k ((xs.set j.toNat (xs.getD (wrap64 (j - 1)).toNat d)).set (wrap64 (j - 1)).toNat (xs.getD j.toNat d)) a b i (wrap64 (j - 1))) else (l0 k xs a b (wrap64 (i + 1))))) else none) else none) else none) else none) else (l0 k xs a b (wrap64 (i + 1)))
variable {l0 : Nat → List α → Int → Int → Int → Option (List α)} {l1 : Nat → List α → Int → Int → Int → Int → Option (List α)}
theorem ins_l1 (ht : TP le) (hcmp : Cmp le cmp) (hF : InsF d cmp l0 l1) {pre post r : List α} {a b i : Int} (ha : a = pre.length) (hi0 : 0 ≤ i) (hi1 : i < 1099511627776) (x : α) : ∀ (n : Nat) (S1 S2 : List α) (j : Int), S1.length = n → j = a + S1.length →
    (pre ++ S1 ++ x :: S2 ++ post).length < 1099511627776 → Srt le (S1 ++ S2) → (∀ z ∈ S2, le z x = false) →
    (∀ S', Srt le S' → SEq le S' (S1 ++ x :: S2) → Ev (fun k => l0 k (pre ++ S' ++ post) a b (i + 1)) r) →
    Ev (fun k => l1 k (pre ++ S1 ++ x :: S2 ++ post) a b i j) r
  | 0, S1, S2, j, hn, hj, hl, hs, hz, hk => by
    have := eq_of_len0 hn
    subst this
    refine Ev.step (fun k => by rw [hF.e1, if_neg (by simp at hj; omega), wr_ _ (by omega) (by omega)]) ?_
    have := hk (x :: S2) (List.pairwise_cons.2 ⟨fun z hz' => ht.of_not (hz z hz'), by simpa using hs⟩) (SEq.refl _)
    simpa using this
  | n + 1, S1, S2, j, hn, hj, hl, hs, hz, hk => by
    obtain ⟨S, y, rfl⟩ : ∃ S y, S1 = S ++ [y] := ⟨S1.dropLast, S1.getLast (by intro e; simp [e] at hn), (List.dropLast_concat_getLast _).symm⟩
    simp at hn hj
    obtain ⟨t, h1, h2⟩ := hcmp x y
    have hlen : ((pre ++ (S ++ [y]) ++ x :: S2 ++ post).length : Int) = pre.length + S.length + 1 + 1 + S2.length + post.length := by simp; omega
    have g1 : (pre ++ (S ++ [y]) ++ x :: S2 ++ post).getD j.toNat d = x := by
      have := gt_ (d := d) (pre ++ S ++ [y]) (S2 ++ post) x j (by simp; omega)
      simpa using this
    have g2 : (pre ++ (S ++ [y]) ++ x :: S2 ++ post).getD (j - 1).toNat d = y := by
      have := gt_ (d := d) (pre ++ S) (x :: S2 ++ post) y (j - 1) (by simp; omega)
      simpa using this
    have g3 : ((pre ++ (S ++ [y]) ++ x :: S2 ++ post).set j.toNat y).set (j - 1).toNat x = pre ++ S ++ x :: (y :: S2) ++ post := by
      have := swp'_ (pre ++ S) [] (S2 ++ post) y x (j - 1) j (by simp; omega) (by simp; omega)
      simpa using this
    refine Ev.step (f := fun k => if t < 0 then l1 k (pre ++ S ++ x :: (y :: S2) ++ post) a b i (j - 1) else l0 k (pre ++ (S ++ [y]) ++ x :: S2 ++ post) a b (i + 1)) (fun k => by
      rw [hF.e1, if_pos (by omega), if_pos (by omega), if_pos (by rw [hlen]; omega), wr_ (j - 1) (by omega) (by omega), wr_ (i + 1) (by omega) (by omega), if_pos (by omega), if_pos (by rw [hlen]; omega), g1, g2, h1, g3]
      rfl) ?_
    have hs' := List.pairwise_append.1 hs
    have hs1 := List.pairwise_append.1 hs'.1
    by_cases ht0 : t < 0
    · simp only [if_pos ht0]
      have hyx := h2.1 ht0
      refine ins_l1 ht hcmp hF ha hi0 hi1 x n S (y :: S2) (j - 1) hn (by omega) (by simp at hl ⊢; omega) (by simpa using hs) (fun z hz' => ?_) (fun S' h3 h4 => hk S' h3 (h4.trans ?_))
      · rcases List.mem_cons.1 hz' with rfl | hz'
        · exact hyx
        · exact hz z hz'
      · have h5 : SEq le ([y] ++ [x]) ([x] ++ [y]) := SEq.swap ht (fun p hp q hq => by simp at hp hq; subst hp; subst hq; exact hyx)
        have := SEq.append (SEq.append (SEq.refl S) h5.symm) (SEq.refl S2)
        simpa using this
    · simp only [if_neg ht0]
      have hyx : le y x = true := by
        cases h : le y x
        · exact absurd (h2.2 h) ht0
        · rfl
      have := hk (S ++ [y] ++ x :: S2) (by
        refine List.pairwise_append.2 ⟨hs'.1, List.pairwise_cons.2 ⟨fun z hz' => ht.of_not (hz z hz'), hs'.2.1⟩, fun p hp q hq => ?_⟩
        have hpy : le p y = true := by
          rcases List.mem_append.1 hp with hp | hp
          · exact hs1.2.2 p hp y (by simp)
          · simp at hp; subst hp; exact ht.refl _
        rcases List.mem_cons.1 hq with rfl | hq
        · exact ht.trans hpy hyx
        · exact hs'.2.2 p hp q hq) (SEq.refl _)
      simpa using this
theorem ins_l0 (ht : TP le) (hcmp : Cmp le cmp) (hF : InsF d cmp l0 l1) {pre post : List α} {a b : Int} (ha : a = pre.length) : ∀ (R S : List α) (i : Int), i = a + S.length → b = i + R.length →
    (pre ++ S ++ R ++ post).length < 1099511627776 → Srt le S → Ev (fun k => l0 k (pre ++ S ++ R ++ post) a b i) (pre ++ isort le (S ++ R) ++ post)
  | [], S, i, hi, hb, hl, hs => by
    refine Ev.step (f := fun _ => some (pre ++ isort le (S ++ []) ++ post)) (fun k => ?_) (Ev.now _)
    simp at hb
    rw [hF.e0, if_neg (by omega)]
    simp [srt_isort ht hs]
  | x :: R, S, i, hi, hb, hl, hs => by
    refine Ev.step (f := fun k => l1 k (pre ++ S ++ x :: R ++ post) a b i i) (fun k => by simp at hb; rw [hF.e0, if_pos (by omega)]) ?_
    have hl' := hl
    simp at hl'
    have h0 := ins_l1 ht hcmp hF (pre := pre) (post := R ++ post) (r := pre ++ isort le (S ++ x :: R) ++ post) (a := a) (b := b) (i := i) ha (by omega) (by omega) x S.length S [] i rfl hi (by simp; omega) (by simpa using hs) (by simp) (fun S' h1 h2 => ?_)
    · simpa using h0
    · have h3 := ins_l0 ht hcmp hF (pre := pre) (post := post) (a := a) (b := b) ha R S' (i + 1) (by
        have : S'.length = S.length + 1 := by
          have e := isort_eq ht h1 h2
          rw [e, isort_len]; simp
        omega) (by simp at hb; omega) (by
          have : S'.length = S.length + 1 := by
            have e := isort_eq ht h1 h2
            rw [e, isort_len]; simp
          simp; omega) h1
      have h4 : isort le (S' ++ R) = isort le (S ++ x :: R) := isort_congr ht (by simpa using SEq.append h2 (SEq.refl R))
      rw [h4] at h3
      simpa using h3
theorem ins_f (ht : TP le) (hcmp : Cmp le cmp) (hF : InsF d cmp l0 l1) {pre S post : List α} {a b : Int} (ha : a = pre.length) (hb : b = a + S.length) (hl : (pre ++ S ++ post).length < 1099511627776) :
    Ev (fun k => l0 k (pre ++ S ++ post) a b (wrap64 (a + 1))) (pre ++ isort le S ++ post) := by
  have hl' := hl
  simp at hl'
  rw [wr_ _ (by omega) (by omega)]
  cases S with
  | nil =>
    refine Ev.step (f := fun _ => some (pre ++ isort le [] ++ post)) (fun k => ?_) (Ev.now _)
    simp at hb
    rw [hF.e0, if_neg (by omega)]
    rfl
  | cons x R =>
    have := ins_l0 ht hcmp hF (pre := pre) (post := post) (a := a) (b := b) ha R [x] (a + 1) (by simp) (by simp at hb; omega) (by simp; simp at hl'; omega) (by simp)
    simpa using this

structure SwF (d : α) (l0 : Nat → List α → Int → Int → Int → Int → Option (List α)) : Prop where
  e0 : ∀ k xs a b n i, l0 (k + 1) xs a b n i = if i < n then (if 0 ≤ (wrap64 (b + i)) then (if (wrap64 (b + i)) < (xs.length : Int) then (if 0 ≤ (wrap64 (a + i)) then (if (wrap64 (a + i)) < (xs.length : Int) then
      (l0 k ((xs.set (wrap64 (a + i)).toNat (xs.getD (wrap64 (b + i)).toNat d)).set (wrap64 (b + i)).toNat (xs.getD (wrap64 (a + i)).toNat d)) a b n (wrap64 (i + 1))) else none) else none) else none) else none) else some xs
variable {s0 : Nat → List α → Int → Int → Int → Int → Option (List α)}
structure RoF (s0 : Nat → List α → Int → Int → Int → Int → Option (List α)) (l0 : Nat → List α → Int → Int → Int → Option (List α)) : Prop where
  e0 : ∀ k xs m i j, l0 (k + 1) xs m i j = if i = j then ((s0 k xs (wrap64 (m - i)) m i 0).bind fun t => some t) else (if i > j then ((s0 k xs (wrap64 (m - i)) m j 0).bind fun t => (l0 k t m (wrap64 (i - j)) j)) else
      ((s0 k xs (wrap64 (m - i)) (wrap64 ((wrap64 (m + j)) - i)) i 0).bind fun t => (l0 k t m i (wrap64 (j - i)))))
variable {r0 : Nat → List α → Int → Int → Int → Option (List α)}
end SortB
section SortC
variable {α : Type} {d : α} {le : α → α → Bool} {cmp : α → α → Option Int}
abbrev hlf (x y : Int) : Int := wrap64 ((IntKind.u64.wrap (wrap64 (x + y))) / 2)
structure SyF (d : α) (cmp : α → α → Option Int) (r0 : Nat → List α → Int → Int → Int → Option (List α)) (l0 : Nat → List α → Int → Int → Int → Option (List α)) (l1 : Nat → List α → Int → Int → Option (List α)) (l2 : Nat → List α → Int → Int → Int → Option (List α)) (l3 : Nat → List α → Int → Int → Option (List α))
    (j4 : Nat → List α → Int → Int → Int → Int → Int → Int → Int → Option (List α)) (l4 : Nat → List α → Int → Int → Int → Int → Int → Int → Int → Int → Option (List α)) (j6 : Nat → List α → Int → Int → Int → Int → Int → Int → Bool → Option (List α)) (j7 : Nat → List α → Int → Int → Int → Int → Int → Option (List α)) (j8 : Nat → List α → Int → Int → Int → Int → Int → Bool → Option (List α))
    (f : Nat → List α → Int → Int → Int → Option (List α)) : Prop where
  ef : ∀ k xs a m b, f (k + 1) xs a m b = if wrap64 (m - a) = 1 then l0 k xs a m b else (if wrap64 (b - m) = 1 then l2 k xs m a m else (if m > hlf a b then j4 k xs a m b (hlf a b) (wrap64 (hlf a b + m)) (wrap64 (wrap64 (hlf a b + m) - b)) (hlf a b) else j4 k xs a m b (hlf a b) (wrap64 (hlf a b + m)) a m))
  e0 : ∀ k xs a i j, l0 (k + 1) xs a i j = if i < j then (if 0 ≤ hlf i j then (if hlf i j < (xs.length : Int) then (if 0 ≤ a then (if a < (xs.length : Int) then ((cmp (xs.getD (hlf i j).toNat d) (xs.getD a.toNat d)).bind fun t => (if t < 0 then l0 k xs a (wrap64 (hlf i j + 1)) j else l0 k xs a i (hlf i j))) else none) else none) else none) else none) else l1 k xs i a
  e1 : ∀ k xs i q, l1 (k + 1) xs i q = if q < wrap64 (i - 1) then (if 0 ≤ wrap64 (q + 1) then (if wrap64 (q + 1) < (xs.length : Int) then (if 0 ≤ q then (if q < (xs.length : Int) then l1 k ((xs.set q.toNat (xs.getD (wrap64 (q + 1)).toNat d)).set (wrap64 (q + 1)).toNat (xs.getD q.toNat d)) i (wrap64 (q + 1)) else none) else none) else none) else none) else some xs
  e2 : ∀ k xs m i j, l2 (k + 1) xs m i j = if i < j then (if 0 ≤ m then (if m < (xs.length : Int) then (if 0 ≤ hlf i j then (if hlf i j < (xs.length : Int) then ((cmp (xs.getD m.toNat d) (xs.getD (hlf i j).toNat d)).bind fun t => (if t < 0 then l2 k xs m i (hlf i j) else l2 k xs m (wrap64 (hlf i j + 1)) j)) else none) else none) else none) else none) else l3 k xs i m
  e3 : ∀ k xs i q, l3 (k + 1) xs i q = if q > i then (if 0 ≤ wrap64 (q - 1) then (if wrap64 (q - 1) < (xs.length : Int) then (if 0 ≤ q then (if q < (xs.length : Int) then l3 k ((xs.set q.toNat (xs.getD (wrap64 (q - 1)).toNat d)).set (wrap64 (q - 1)).toNat (xs.getD q.toNat d)) i (wrap64 (q - 1)) else none) else none) else none) else none) else some xs
  ej4 : ∀ k xs a m b mid n st r, j4 (k + 1) xs a m b mid n st r = l4 k xs a m b mid n st r (wrap64 (n - 1))
  e4 : ∀ k xs a m b mid n st r p, l4 (k + 1) xs a m b mid n st r p = if st < r then (if 0 ≤ wrap64 (p - hlf st r) then (if wrap64 (p - hlf st r) < (xs.length : Int) then (if 0 ≤ hlf st r then (if hlf st r < (xs.length : Int) then ((cmp (xs.getD (wrap64 (p - hlf st r)).toNat d) (xs.getD (hlf st r).toNat d)).bind fun t => (if t < 0 then l4 k xs a m b mid n st (hlf st r) p else l4 k xs a m b mid n (wrap64 (hlf st r + 1)) r p)) else none) else none) else none) else none)
    else (if st < m then j6 k xs a m b mid st (wrap64 (n - st)) (decide (m < wrap64 (n - st))) else j6 k xs a m b mid st (wrap64 (n - st)) false)
  ej6 : ∀ k xs a m b mid st en c, j6 (k + 1) xs a m b mid st en c = if c = true then ((r0 k xs m (wrap64 (m - st)) (wrap64 (en - m))).bind fun t => j7 k t a b mid st en) else j7 k xs a b mid st en
  ej7 : ∀ k xs a b mid st en, j7 (k + 1) xs a b mid st en = if a < st then j8 k xs a b mid st en (decide (st < mid)) else j8 k xs a b mid st en false
  ej8 : ∀ k xs a b mid st en c, j8 (k + 1) xs a b mid st en c = if c = true then ((f k xs a st mid).bind fun t => (if mid < en then (if en < b then ((f k t mid en b).bind fun u => some u) else some t) else some t)) else (if mid < en then (if en < b then ((f k xs mid en b).bind fun u => some u) else some xs) else some xs)
variable {s0 : Nat → List α → Int → Int → Int → Int → Option (List α)} {r0 : Nat → List α → Int → Int → Int → Option (List α)} {l0 : Nat → List α → Int → Int → Int → Option (List α)} {l1 : Nat → List α → Int → Int → Option (List α)} {l2 : Nat → List α → Int → Int → Int → Option (List α)} {l3 : Nat → List α → Int → Int → Option (List α)}
    {j4 : Nat → List α → Int → Int → Int → Int → Int → Int → Int → Option (List α)} {l4 : Nat → List α → Int → Int → Int → Int → Int → Int → Int → Int → Option (List α)} {j6 : Nat → List α → Int → Int → Int → Int → Int → Int → Bool → Option (List α)} {j7 : Nat → List α → Int → Int → Int → Int → Int → Option (List α)} {j8 : Nat → List α → Int → Int → Int → Int → Int → Bool → Option (List α)}
    {f : Nat → List α → Int → Int → Int → Option (List α)}
end SortC
section SortD
variable {α : Type} {d : α} {le : α → α → Bool} {cmp : α → α → Option Int}
variable {s0 : Nat → List α → Int → Int → Int → Int → Option (List α)} {r0 : Nat → List α → Int → Int → Int → Option (List α)} {l0 : Nat → List α → Int → Int → Int → Option (List α)} {l1 : Nat → List α → Int → Int → Option (List α)} {l2 : Nat → List α → Int → Int → Int → Option (List α)} {l3 : Nat → List α → Int → Int → Option (List α)}
    {j4 : Nat → List α → Int → Int → Int → Int → Int → Int → Int → Option (List α)} {l4 : Nat → List α → Int → Int → Int → Int → Int → Int → Int → Int → Option (List α)} {j6 : Nat → List α → Int → Int → Int → Int → Int → Int → Bool → Option (List α)} {j7 : Nat → List α → Int → Int → Int → Int → Int → Option (List α)} {j8 : Nat → List α → Int → Int → Int → Int → Int → Bool → Option (List α)}
    {f : Nat → List α → Int → Int → Int → Option (List α)}
end SortD
section SortE
variable {α : Type} {d : α} {le : α → α → Bool} {cmp : α → α → Option Int}
variable {i0 : Nat → List α → Int → Int → Int → Option (List α)} {i1 : Nat → List α → Int → Int → Int → Int → Option (List α)} {s0 : Nat → List α → Int → Int → Int → Int → Option (List α)} {r0 : Nat → List α → Int → Int → Int → Option (List α)} {l0 : Nat → List α → Int → Int → Int → Option (List α)} {l1 : Nat → List α → Int → Int → Option (List α)} {l2 : Nat → List α → Int → Int → Int → Option (List α)} {l3 : Nat → List α → Int → Int → Option (List α)}
    {j4 : Nat → List α → Int → Int → Int → Int → Int → Int → Int → Option (List α)} {l4 : Nat → List α → Int → Int → Int → Int → Int → Int → Int → Int → Option (List α)} {j6 : Nat → List α → Int → Int → Int → Int → Int → Int → Bool → Option (List α)} {j7 : Nat → List α → Int → Int → Int → Int → Int → Option (List α)} {j8 : Nat → List α → Int → Int → Int → Int → Int → Bool → Option (List α)}
    {f : Nat → List α → Int → Int → Int → Option (List α)}
structure StF (i0 : Nat → List α → Int → Int → Int → Option (List α)) (f : Nat → List α → Int → Int → Int → Option (List α)) (t0 : Nat → List α → Int → Int → Int → Int → Option (List α)) (t1 : Nat → List α → Int → Int → Option (List α)) (t2 : Nat → List α → Int → Int → Int → Int → Option (List α)) : Prop where
  e0 : ∀ k xs n s a b, t0 (k + 1) xs n s a b = if b ≤ n then ((i0 k xs a b (wrap64 (a + 1))).bind fun t => t0 k t n s b (wrap64 (b + s))) else ((i0 k xs a n (wrap64 (a + 1))).bind fun t => t1 k t n s)
  e1 : ∀ k xs n s, t1 (k + 1) xs n s = if s < n then t2 k xs n s 0 (wrap64 (2 * s)) else some xs
  e2 : ∀ k xs n s a b, t2 (k + 1) xs n s a b = if b ≤ n then ((f k xs a (wrap64 (a + s)) b).bind fun t => t2 k t n s b (wrap64 (b + wrap64 (2 * s)))) else (if wrap64 (a + s) < n then ((f k xs a (wrap64 (a + s)) n).bind fun t => t1 k t n (wrap64 (s * 2))) else t1 k xs n (wrap64 (s * 2)))
variable {t0 : Nat → List α → Int → Int → Int → Int → Option (List α)} {t1 : Nat → List α → Int → Int → Option (List α)} {t2 : Nat → List α → Int → Int → Int → Int → Option (List α)}
inductive Blk (le : α → α → Bool) (s : Nat) : List α → Prop
  | last {xs : List α} : xs.length ≤ s → Srt le xs → Blk le s xs
  | more {B R : List α} : B.length = s → Srt le B → Blk le s R → Blk le s (B ++ R)
theorem Blk.split {s : Nat} {xs : List α} (h : Blk le s xs) (hl : s < xs.length) : ∃ B R, xs = B ++ R ∧ B.length = s ∧ Srt le B ∧ Blk le s R := by
  cases h with
  | last h1 h2 => omega
  | more h1 h2 h3 => exact ⟨_, _, rfl, h1, h2, h3⟩
end SortE

section Gen
variable {α : Type} (d : α) (cmp : α → α → Option Int)
mutual
def gI0 : Nat → List α → Int → Int → Int → Option (List α)
  | 0, _, _, _, _ => none
  | k + 1, xs, a, b, i => if i < b then gI1 k xs a b i i else some xs
def gI1 : Nat → List α → Int → Int → Int → Int → Option (List α)
  | 0, _, _, _, _, _ => none
  | k + 1, xs, a, b, i, j => if j > a then (if 0 ≤ j then (if j < (xs.length : Int) then (if 0 ≤ (wrap64 (j - 1)) then (if (wrap64 (j - 1)) < (xs.length : Int) then
      ((cmp (xs.getD j.toNat d) (xs.getD (wrap64 (j - 1)).toNat d)).bind fun t => (if t < 0 then (gI1 k ((xs.set j.toNat (xs.getD (wrap64 (j - 1)).toNat d)).set (wrap64 (j - 1)).toNat (xs.getD j.toNat d)) a b i (wrap64 (j - 1))) else (gI0 k xs a b (wrap64 (i + 1))))) else none) else none) else none) else none) else (gI0 k xs a b (wrap64 (i + 1)))
end
theorem gI_F : InsF d cmp (gI0 d cmp) (gI1 d cmp) := ⟨fun _ _ _ _ _ => by rw [gI0], fun _ _ _ _ _ _ => by rw [gI1]⟩
end Gen
abbrev Sub (n : Int) := {x : Int // 0 ≤ x ∧ x < n}
abbrev vals {n : Int} (xs : List (Sub n)) : List Int := xs.map Subtype.val
theorem rd_vals {n : Int} (d : Sub n) (xs : List (Sub n)) (j : Int) (h0 : 0 ≤ j) (h : j < (xs.length : Int)) : rd (vals xs) j = (xs.getD j.toNat d).1 := by
  have : j.toNat < xs.length := by omega
  simp [rd, List.getD_eq_getElem?_getD, this]
theorem set_vals {n : Int} (xs : List (Sub n)) (j : Nat) (v : Sub n) : (vals xs).set j v.1 = vals (xs.set j v) := by simp [List.map_set]
theorem ins_vals {n : Int} (le : Int → Int → Bool) (x : Sub n) : ∀ xs : List (Sub n), (ins (fun a b : Sub n => le a.1 b.1) x xs).map Subtype.val = ins le x.1 (xs.map Subtype.val)
  | [] => rfl
  | y :: ys => by
    simp only [ins, List.map_cons]
    split
    · rfl
    · rw [List.map_cons, ins_vals le x ys]
theorem isort_vals {n : Int} (le : Int → Int → Bool) : ∀ xs : List (Sub n), (isort (fun a b : Sub n => le a.1 b.1) xs).map Subtype.val = isort le (xs.map Subtype.val)
  | [] => rfl
  | y :: ys => by simp only [isort, List.map_cons]; rw [ins_vals, isort_vals le ys]
theorem ite_map {c : Prop} [Decidable c] {β γ : Type} {a b : Option β} {a' b' : Option γ} (f : γ → β) (h1 : c → a = a'.map f) (h2 : ¬c → b = b'.map f) : (if c then a else b) = (if c then a' else b').map f := by
  split
  · exact h1 ‹_›
  · exact h2 ‹_›

def leU (al : List S46) (a b : Int) : Bool := decide ((rd_T46 al a).f2 ≤ (rd_T46 al b).f2)
theorem leU_tp (al : List S46) : TP (leU al) := ⟨fun a b => by simp only [leU, decide_eq_true_eq]; omega, fun {a b c} h1 h2 => by simp only [leU, decide_eq_true_eq] at *; omega⟩
abbrev cmpS (al : List S46) (x y : Sub al.length) : Option Int := @draw_open_1.f ⟨al⟩ x.1 y.1
theorem compare_eq (a b : Int) : cmp_Compare_int.f a b = some (if a < b then -1 else if a > b then 1 else 0) := by
  simp only [cmp_Compare_int.f, cmp_isNaN_int.f, Option.bind_some, bne_self_eq_false, Bool.false_eq_true, if_false]
  by_cases h : a < b
  · simp [h]
  · by_cases h2 : b < a <;> simp [h, h2]
theorem cmpS_ok (al : List S46) : Cmp (fun x y : Sub al.length => leU al x.1 y.1) (cmpS al) := by
  intro x y
  refine ⟨_, by
    show @draw_open_1.f ⟨al⟩ x.1 y.1 = _
    unfold draw_open_1.f
    rw [if_pos ⟨⟨x.2.1, x.2.2⟩, y.2.1, y.2.2⟩, compare_eq], ?_⟩
  simp only [leU, decide_eq_false_iff_not]
  split
  · omega
  · split <;> omega
theorem gI_map (al : List S46) (d : Sub al.length) : ∀ k, (∀ (xs : List (Sub al.length)) a b i, @slices_insertionSortCmpFunc_int__draw_open_1.l0 ⟨al⟩ k (vals xs) a b i = (gI0 d (cmpS al) k xs a b i).map vals) ∧ (∀ (xs : List (Sub al.length)) a b i j, @slices_insertionSortCmpFunc_int__draw_open_1.l1 ⟨al⟩ k (vals xs) a b i j = (gI1 d (cmpS al) k xs a b i j).map vals)
  | 0 => ⟨fun _ _ _ _ => by simp [slices_insertionSortCmpFunc_int__draw_open_1.l0, gI0], fun _ _ _ _ _ => by simp [slices_insertionSortCmpFunc_int__draw_open_1.l1, gI1]⟩
  | k + 1 => by
    obtain ⟨h0, h1⟩ := gI_map al d k
    constructor
    · intro xs a b i
      simp only [slices_insertionSortCmpFunc_int__draw_open_1.l0, gI0]
      split
      · exact h1 _ _ _ _ _
      · rfl
    · intro xs a b i j
      simp only [slices_insertionSortCmpFunc_int__draw_open_1.l1, gI1, List.length_map]
      refine ite_map _ (fun c1 => ?_) (fun _ => h0 _ _ _ _)
      refine ite_map _ (fun c2 => ?_) (fun _ => rfl)
      refine ite_map _ (fun c3 => ?_) (fun _ => rfl)
      refine ite_map _ (fun c4 => ?_) (fun _ => rfl)
      refine ite_map _ (fun c5 => ?_) (fun _ => rfl)
      rw [rd_vals d xs j c2 c3, rd_vals d xs _ c4 c5]
      show Option.bind (cmpS al (xs.getD j.toNat d) (xs.getD (wrap64 (j - 1)).toNat d)) _ = _
      obtain ⟨t, ht, _⟩ := cmpS_ok al (xs.getD j.toNat d) (xs.getD (wrap64 (j - 1)).toNat d)
      rw [ht, Option.bind_some, Option.bind_some]
      split
      · rw [set_vals, set_vals]; exact h1 _ _ _ _ _
      · exact h0 _ _ _ _
theorem sort_f (al : List S46) (xs : List Int) (hl : xs.length < 20) (hx : ∀ x ∈ xs, 0 ≤ x ∧ x < (al.length : Int)) : Ev (fun k => draw_open.sort al k xs) (isort (leU al) xs) := by
  refine Ev.congr (f := fun k => @slices_insertionSortCmpFunc_int__draw_open_1.l0 ⟨al⟩ k xs 0 xs.length (wrap64 (0 + 1))) (fun k => by show @slices_SortStableFunc_int__draw_open_1.f ⟨al⟩ k xs = _; unfold slices_SortStableFunc_int__draw_open_1.f; rw [if_pos (by omega)]; rfl) ?_
  cases xs with
  | nil => exact ⟨1, fun k hk => by obtain ⟨k, rfl⟩ : ∃ m, k = m + 1 := ⟨k - 1, by omega⟩; simp [slices_insertionSortCmpFunc_int__draw_open_1.l0, isort, wrap64]⟩
  | cons x r =>
    have hx0 := hx x (List.mem_cons_self)
    let d : Sub al.length := ⟨x, hx0⟩
    obtain ⟨ys, hys⟩ : ∃ ys : List (Sub al.length), vals ys = x :: r := ⟨(x :: r).attach.map (fun y => ⟨y.1, hx y.1 y.2⟩), by simp [vals, List.map_map, Function.comp_def]⟩
    rw [← hys]
    have hlen : (vals ys).length = ys.length := by simp
    have hl2 : ys.length < 20 := by rw [← hlen, hys]; exact hl
    rw [hlen]
    have h := ins_f (le := fun x y : Sub al.length => leU al x.1 y.1) (d := d) (cmp := cmpS al) ⟨fun a b => (leU_tp al).total a.1 b.1, fun h1 h2 => (leU_tp al).trans h1 h2⟩ (cmpS_ok al) (gI_F d (cmpS al)) (pre := []) (S := ys) (post := []) (a := 0) (b := ys.length) rfl (by simp) (by simp; omega)
    simp only [List.nil_append, List.append_nil] at h
    obtain ⟨K, hK⟩ := h
    exact ⟨K, fun k hk => by
      show @slices_insertionSortCmpFunc_int__draw_open_1.l0 ⟨al⟩ k (vals ys) 0 ys.length (wrap64 (0 + 1)) = _
      have h3 := hK k hk
      dsimp only at h3
      rw [(gI_map al d k).1, h3, Option.map_some, ← isort_vals]⟩
def opn (s : S46) (f now : Int) : Bool := decide (s.f0 = f) && (decide (s.f1 ≤ now) && (decide (now < s.f2) && decide (s.f3 > 0)))
def candF (al : List S46) (f now : Int) (i m : Nat) : List Int := ((List.range' i m).filter (fun j : Nat => opn (rd_T46 al (j : Int)) f now)).map Int.ofNat
def openL (al : List S46) (f now : Int) : List Int := isort (leU al) (candF al f now 0 al.length)
theorem candF_succ (al : List S46) (f now : Int) (i m : Nat) : candF al f now i (m + 1) = if opn (rd_T46 al (i : Int)) f now = true then (i : Int) :: candF al f now (i + 1) m else candF al f now (i + 1) m := by
  unfold candF
  rw [List.range'_succ, List.filter_cons]
  split <;> simp
theorem candF_mem (al : List S46) (f now : Int) (i m : Nat) (x : Int) : x ∈ candF al f now i m ↔ (i : Int) ≤ x ∧ x < (i + m : Nat) ∧ opn (rd_T46 al x) f now = true := by
  unfold candF
  simp only [List.mem_map, List.mem_filter, List.mem_range'_1]
  constructor
  · rintro ⟨j, ⟨h1, h2⟩, rfl⟩
    exact ⟨by simp; omega, by simp; omega, h2⟩
  · rintro ⟨h1, h2, h3⟩
    have e : ((x.toNat : Nat) : Int) = x := by omega
    exact ⟨x.toNat, ⟨by omega, by rw [e]; exact h3⟩, e⟩
theorem candF_len (al : List S46) (f now : Int) (i m : Nat) : (candF al f now i m).length ≤ m := by
  unfold candF
  rw [List.length_map]
  exact Nat.le_trans (List.length_filter_le _ _) (by simp)
theorem candF_asc (al : List S46) (f now : Int) (i m : Nat) : (candF al f now i m).Pairwise (· < ·) := by
  unfold candF
  rw [List.pairwise_map]
  refine List.Pairwise.imp ?_ (List.Pairwise.filter _ (List.pairwise_lt_range' (s := i) (n := m)))
  intro a b h
  simp only [Int.ofNat_eq_natCast]; omega
theorem openL_len (al : List S46) (f now : Int) : (openL al f now).length ≤ al.length := by
  unfold openL
  rw [isort_len]
  exact candF_len _ _ _ _ _
theorem openL_mem (al : List S46) (f now : Int) (x : Int) : x ∈ openL al f now ↔ 0 ≤ x ∧ x < (al.length : Int) ∧ opn (rd_T46 al x) f now = true := by
  unfold openL
  rw [(isort_perm _).mem_iff, candF_mem]
  simp
def lexU (al : List S46) (a b : Int) : Prop := (rd_T46 al a).f2 < (rd_T46 al b).f2 ∨ ((rd_T46 al a).f2 = (rd_T46 al b).f2 ∧ a < b)
theorem openL_lex (al : List S46) (f now : Int) : (openL al f now).Pairwise (lexU al) := by
  have h1 : (openL al f now).Pairwise (fun a b => leU al a b = true) := isort_srt (leU_tp al) _
  have h2 : SEq (leU al) (openL al f now) (candF al f now 0 al.length) := isort_seq (leU_tp al) _
  rw [List.pairwise_iff_forall_sublist] at h1 ⊢
  intro a b hab
  have h3 : (rd_T46 al a).f2 ≤ (rd_T46 al b).f2 := by simpa [leU] using h1 hab
  by_cases h4 : (rd_T46 al a).f2 = (rd_T46 al b).f2
  · right
    refine ⟨h4, ?_⟩
    have h5 := hab.filter (eqv (leU al) a)
    rw [h2 a] at h5
    have h6 : List.filter (eqv (leU al) a) [a, b] = [a, b] := by
      rw [List.filter_eq_self]
      intro c hc
      simp only [List.mem_cons, List.not_mem_nil, or_false] at hc
      rcases hc with rfl | rfl <;> simp [eqv, leU] <;> omega
    rw [h6] at h5
    exact (List.pairwise_iff_forall_sublist.1 (candF_asc al f now 0 al.length)) (h5.trans List.filter_sublist)
  · left; omega
theorem opn_eq (s : S46) (f now : Int) : opn s f now = true ↔ s.f0 = f ∧ s.f1 ≤ now ∧ now < s.f2 ∧ s.f3 > 0 := by simp [opn]
theorem open_l0 (al : List S46) (hl : al.length < 20) (f now : Int) : ∀ (m i : Nat) (acc : List Int), i + m = al.length → acc.length + m < 20 → (∀ x ∈ acc, 0 ≤ x ∧ x < (al.length : Int)) →
    Ev (fun k => draw_open.l0 k f now acc al (al.length : Int) (i : Int)) (isort (leU al) (acc ++ candF al f now i m))
  | 0, i, acc, him, hacc, hx => by
    refine Ev.step (f := fun k => (draw_open.sort al k acc).bind fun t => some t) (fun k => by simp only [draw_open.l0]; rw [if_neg (by omega)]) ?_
    have : candF al f now i 0 = [] := by simp [candF]
    rw [this, List.append_nil]
    exact Ev.bind (sort_f al acc (by omega) hx) (Ev.now _)
  | m + 1, i, acc, him, hacc, hx => by
    rw [candF_succ]
    have hw : wrap64 ((i : Int) + 1) = ((i + 1 : Nat) : Int) := by unfold wrap64; omega
    by_cases h : opn (rd_T46 al (i : Int)) f now = true
    · rw [if_pos h]
      obtain ⟨h1, h2, h3, h4⟩ := (opn_eq _ _ _).1 h
      have := open_l0 al hl f now m (i + 1) (acc ++ [(i : Int)]) (by omega) (by simp; omega) (by
        intro x hx'
        rcases List.mem_append.1 hx' with h' | h'
        · exact hx x h'
        · obtain rfl : x = (i : Int) := by simpa using h'
          omega)
      rw [List.append_assoc] at this
      refine Ev.step (fun k => ?_) this
      simp only [draw_open.l0]
      rw [if_pos (by omega), if_pos (by omega), if_pos (by omega), if_pos h1, if_pos h2, if_pos h3, if_pos h4, if_pos (by omega), hw]
    · rw [if_neg h]
      have := open_l0 al hl f now m (i + 1) acc (by omega) (by omega) hx
      refine Ev.step (fun k => ?_) this
      simp only [draw_open.l0]
      rw [if_pos (by omega), if_pos (by omega), if_pos (by omega), hw]
      by_cases h1 : (rd_T46 al (i : Int)).f0 = f
      · rw [if_pos h1]
        by_cases h2 : (rd_T46 al (i : Int)).f1 ≤ now
        · rw [if_pos h2]
          by_cases h3 : now < (rd_T46 al (i : Int)).f2
          · rw [if_pos h3]
            by_cases h4 : (rd_T46 al (i : Int)).f3 > 0
            · exact absurd ((opn_eq _ _ _).2 ⟨h1, h2, h3, h4⟩) h
            · rw [if_neg h4]
          · rw [if_neg h3]
        · rw [if_neg h2]
      · rw [if_neg h1]
theorem open_f (al : List S46) (hl : al.length < 20) (f now : Int) : Ev (fun k => draw_open.f k al f now) (openL al f now) := by
  have := open_l0 al hl f now al.length 0 [] (by omega) (by simp; omega) (by simp)
  simpa [openL, draw_open.f] using this

theorem few_eq (l : List S62) (m : List S46) : prebendlaw11_few.f l m = some (l.take 12, m.take 16) := by
  unfold prebendlaw11_few.f
  by_cases h : (l.length : Int) > 12
  · by_cases h2 : (m.length : Int) > 16
    · rw [if_pos h, if_pos (by omega)]; simp only [Option.bind_some]; rw [if_pos h2, if_pos (by omega)]
    · rw [if_pos h, if_pos (by omega)]; simp only [Option.bind_some]; rw [if_neg h2, List.take_of_length_le (l := m) (by omega)]
  · by_cases h2 : (m.length : Int) > 16
    · rw [if_neg h, if_pos h2, if_pos (by omega), List.take_of_length_le (l := l) (by omega)]
    · rw [if_neg h, if_neg h2, List.take_of_length_le (l := m) (by omega), List.take_of_length_le (l := l) (by omega)]
def pathN (l : List S62) : Nat → Int → List Int
  | 0, _ => []
  | n + 1, f => if 0 ≤ f ∧ f < (l.length : Int) then f :: (if (rd_T62 l f).f1 ≥ f then [] else pathN l n (rd_T62 l f).f1) else []
def path (l : List S62) (f : Int) : List Int := pathN l (l.length + 1) f
theorem path_out (l : List S62) (f : Int) (h : ¬ (0 ≤ f ∧ f < (l.length : Int))) : path l f = [] := by
  unfold path; simp only [pathN]; rw [if_neg h]
theorem pathN_len (l : List S62) : ∀ (n : Nat) (f : Int), (pathN l n f).length ≤ n := by
  intro n
  induction n with
  | zero => intro f; simp [pathN]
  | succ n ih =>
    intro f
    simp only [pathN]
    split
    · split
      · simp
      · have := ih (rd_T62 l f).f1; simp; omega
    · simp
theorem path_len (l : List S62) (f : Int) : (path l f).length ≤ l.length + 1 := pathN_len l _ f
theorem tpath_l0 (l : List S62) : ∀ (n k : Nat) (f : Int) (acc : List Int), f < n → 2 * n + 2 ≤ k → acc.length + n < 17592186044416 → tree_Path.l0 k l f acc = some (acc ++ pathN l n f) := by
  intro n
  induction n with
  | zero =>
    intro k f acc h1 h2 h3
    obtain ⟨k, rfl⟩ : ∃ m, k = m + 2 := ⟨k - 2, by omega⟩
    simp only [tree_Path.l0]
    rw [if_neg (by omega)]
    simp [tree_Path.j1, slices_Clip_int.f, pathN]
  | succ n ih =>
    intro k f acc h1 h2 h3
    obtain ⟨k, rfl⟩ : ∃ m, k = m + 2 := ⟨k - 2, by omega⟩
    simp only [tree_Path.l0, pathN]
    by_cases h0 : f ≥ 0
    · rw [if_pos h0]
      simp only [tree_Path.j1]
      by_cases hl : f < (l.length : Int)
      · rw [if_pos (decide_eq_true hl), if_pos (by omega), if_pos ⟨h0, hl⟩]
        simp only [Option.bind_some]
        rw [if_pos h0, if_pos hl]
        by_cases g : (rd_T62 l f).f1 ≥ f
        · rw [if_pos g, if_pos g]; simp [slices_Clip_int.f]
        · rw [if_neg g, if_neg g, ih k _ _ (by omega) (by omega) (by simp; omega)]
          simp
      · rw [if_neg (by simpa using hl), if_neg (fun h => hl h.2)]
        simp [slices_Clip_int.f]
    · rw [if_neg h0, if_neg (fun h => h0 h.1)]
      simp [tree_Path.j1, slices_Clip_int.f]
theorem tpath_eq (l : List S62) (hl : l.length ≤ 20) (f : Int) (k : Nat) (hk : 50 ≤ k) : tree_Path.f k l f = some (path l f) := by
  unfold tree_Path.f
  by_cases h : f < (l.length : Int)
  · rw [tpath_l0 l (l.length + 1) k f [] (by omega) (by omega) (by simp; omega)]; simp [path]
  · obtain ⟨k, rfl⟩ : ∃ m, k = m + 2 := ⟨k - 2, by omega⟩
    rw [path_out l f (by omega)]
    simp only [tree_Path.l0]
    rw [if_pos (by omega)]
    simp only [tree_Path.j1]
    rw [if_neg (by simpa using h)]
    simp [slices_Clip_int.f]

def spend (al : List S46) : List Int → Int → List S37 → Int × List S37
  | [], am, out => (am, out)
  | n :: r, am, out => if am = 0 then (am, out) else spend al r (am - min am (rd_T46 al n).f3) (out ++ [⟨n, min am (rd_T46 al n).f3⟩])
theorem spend_zero (al : List S46) (s : List Int) (out : List S37) : spend al s 0 out = (0, out) := by
  cases s with
  | nil => rfl
  | cons n r => simp [spend]
def fin (p : Int × List S37) : List S37 × Int := if p.1 > 0 then ([], 7) else (p.2, 0)
theorem mn_min (a b : Int) : mn a b = min a b := by unfold mn; omega
theorem draws_l1 (al : List S46) (now : Int) (path : List Int) (x30 x31 p : Int) (s : List Int)
    (hk : ∀ am out, 0 ≤ am → am < 9223372036854775808 → out.length + s.length ≤ 1000000 → Ev (fun k => draw_Draws.l0 k al am now out path x30 (wrap64 (x31 + 1))) (fin (spend al s am out))) :
    ∀ (rest pre : List Int) (am : Int) (out : List S37), openL al p now = pre ++ rest → 0 ≤ am → am < 9223372036854775808 → out.length + (rest.length + s.length) ≤ 1000000 → (pre ++ rest).length < 1000000 →
    Ev (fun k => draw_Draws.l1 k al am now out path x30 x31 (openL al p now) ((openL al p now).length : Int) (pre.length : Int)) (fin (spend al (rest ++ s) am out))
  | [], pre, am, out, hL, h0, h1, hb, hq => by
    refine Ev.step (fun k => ?_) (hk am out h0 h1 (by simp at hb; omega))
    simp only [draw_Draws.l1]
    rw [if_neg (by rw [hL]; simp)]
  | n :: rest, pre, am, out, hL, h0, h1, hb, hq => by
    have hn : n ∈ openL al p now := by rw [hL]; simp
    obtain ⟨n0, n1, n2⟩ := (openL_mem _ _ _ _).1 hn
    have h3 := ((opn_eq _ _ _).1 n2).2.2.2
    have hrd : rd (openL al p now) (pre.length : Int) = n := by rw [hL]; simp [rd]
    have hlt : (pre.length : Int) < ((openL al p now).length : Int) := by rw [hL]; simp; omega
    by_cases c : am = 0
    · subst c
      rw [spend_zero]
      refine Ev.step (f := fun _ => some (fin (0, out))) (fun k => ?_) (Ev.now _)
      simp only [draw_Draws.l1]
      rw [if_pos hlt, if_pos (by omega), if_pos hlt, hrd, if_pos n0, if_pos n1, mn_min, if_pos (by omega)]
      simp [slices_Clip_Draw.f, fin]
    · have ih := draws_l1 al now path x30 x31 p s hk rest (pre ++ [n]) (am - min am (rd_T46 al n).f3) (out ++ [⟨n, min am (rd_T46 al n).f3⟩]) (by rw [hL]; simp) (by omega) (by omega) (by simp at hb ⊢; omega) (by simp at hq ⊢; omega)
      simp only [List.cons_append, spend]
      rw [if_neg c]
      refine Ev.step (fun k => ?_) ih
      simp only [draw_Draws.l1]
      simp at hb hq
      rw [if_pos hlt, if_pos (by omega), if_pos hlt, hrd, if_pos n0, if_pos n1, mn_min, if_neg (by omega), if_pos (by omega), show wrap64 ((pre.length : Int) + 1) = (((pre ++ [n]).length : Nat) : Int) by simp; unfold wrap64; omega, show wrap64 (am - min am (rd_T46 al n).f3) = am - min am (rd_T46 al n).f3 by unfold wrap64; omega]
theorem draws_l0 (al : List S46) (hl : al.length < 20) (now : Int) (path : List Int) (hpl : path.length ≤ 1000) : ∀ (ps qs : List Int) (am : Int) (out : List S37), path = qs ++ ps → 0 ≤ am → am < 9223372036854775808 → out.length + (ps.flatMap (openL al · now)).length ≤ 1000000 →
    Ev (fun k => draw_Draws.l0 k al am now out path (path.length : Int) (qs.length : Int)) (fin (spend al (ps.flatMap (openL al · now)) am out))
  | [], qs, am, out, hP, h0, h1, hb => by
    refine Ev.step (f := fun _ => some (fin (am, out))) (fun k => ?_) (Ev.now _)
    simp only [draw_Draws.l0]
    rw [if_neg (by rw [hP]; simp)]
    unfold fin slices_Clip_Draw.f
    by_cases c : am > 0
    · rw [if_pos c, if_pos c]
    · rw [if_neg c, if_neg c]; rfl
  | p :: ps, qs, am, out, hP, h0, h1, hb => by
    have hrd : rd path (qs.length : Int) = p := by rw [hP]; simp [rd]
    have hlt : (qs.length : Int) < (path.length : Int) := by rw [hP]; simp; omega
    have hq : qs.length < 1000 := by omega
    rw [List.flatMap_cons]
    refine Ev.step (f := fun k => (draw_open.f k al p now).bind fun t => draw_Draws.l1 k al am now out path (path.length : Int) (qs.length : Int) t (t.length : Int) 0) (fun k => ?_) ?_
    · simp only [draw_Draws.l0]
      rw [if_pos hlt, if_pos (by omega), if_pos hlt, hrd]
    · refine Ev.bind (open_f al hl p now) ?_
      have hol := openL_len al p now
      refine draws_l1 al now path (path.length : Int) (qs.length : Int) p (ps.flatMap (openL al · now)) (fun am' out' g0 g1 g2 => ?_) (openL al p now) [] am out rfl h0 h1 (by rw [List.flatMap_cons, List.length_append] at hb; omega) (by simp; omega)
      have := draws_l0 al hl now path hpl ps (qs ++ [p]) am' out' (by rw [hP]; simp) g0 g1 g2
      rw [show wrap64 ((qs.length : Int) + 1) = (((qs ++ [p]).length : Nat) : Int) by simp; unfold wrap64; omega]
      exact this
theorem pathN_le (l : List S62) : ∀ (n : Nat) (f x : Int), x ∈ pathN l n f → x ≤ f := by
  intro n
  induction n with
  | zero => intro f x hx; simp [pathN] at hx
  | succ n ih =>
    intro f x hx
    simp only [pathN] at hx
    split at hx
    · split at hx
      · simp at hx; omega
      · rcases List.mem_cons.1 hx with e | e
        · omega
        · have := ih _ _ e; omega
    · simp at hx
theorem pathN_nodup (l : List S62) : ∀ (n : Nat) (f : Int), (pathN l n f).Nodup := by
  intro n
  induction n with
  | zero => intro f; simp [pathN]
  | succ n ih =>
    intro f
    simp only [pathN]
    split
    · split
      · simp
      · refine List.nodup_cons.2 ⟨fun h => ?_, ih _⟩
        have := pathN_le l n _ _ h
        omega
    · simp
theorem flat_len (al : List S46) (hl : al.length < 20) (now : Int) : ∀ ps : List Int, (ps.flatMap (openL al · now)).length ≤ 20 * ps.length
  | [] => by simp
  | p :: ps => by
    rw [List.flatMap_cons, List.length_append]
    have := flat_len al hl now ps
    have := openL_len al p now
    simp only [List.length_cons]; omega
def drawsS (l : List S62) (al : List S46) (f am now : Int) : List S37 × Int := if path l f = [] then ([], 4) else if am < 0 then ([], 1) else fin (spend al ((path l f).flatMap (openL al · now)) am [])
theorem Ev_at {β : Type} {g : Nat → Option β} {r : β} (K : Nat) (h : ∀ k, K ≤ k → g k = some r) : Ev g r := ⟨K, h⟩
theorem draws_f (l : List S62) (al : List S46) (hll : l.length ≤ 20) (hl : al.length < 20) (f am now : Int) (h1 : am < 9223372036854775808) : Ev (fun k => draw_Draws.f k l al f am now) (drawsS l al f am now) := by
  unfold drawsS draw_Draws.f
  refine Ev.bind (Ev_at 50 (fun k hk => tpath_eq l hll f k hk)) ?_
  have hpl := path_len l f
  by_cases c1 : path l f = []
  · rw [if_pos c1]
    refine Ev.congr (f := fun _ => some ([], 4)) (fun k => ?_) (Ev.now _)
    rw [if_pos (by rw [c1]; rfl)]
  · have c1' : ¬ ((path l f).length : Int) = 0 := fun h => c1 (List.length_eq_zero_iff.1 (by omega))
    rw [if_neg c1]
    by_cases c2 : am < 0
    · rw [if_pos c2]
      refine Ev.congr (f := fun _ => some ([], 1)) (fun k => ?_) (Ev.now _)
      rw [if_neg c1', if_pos c2]
    · rw [if_neg c2]
      have hfl := flat_len al hl now (path l f)
      have := draws_l0 al hl now (path l f) (by omega) (path l f) [] am [] rfl (by omega) h1 (by simp only [List.length_nil]; omega)
      refine Ev.congr (fun k => ?_) this
      rw [if_neg c1', if_neg c2]; rfl

theorem awake11 : Ev (fun k => prebendlaw11_awake.f k) true := Ev.of prebendlaw11_awake.mono (k := 60) (by decide +kernel)

theorem i64_hi (x : Int) (h : (Lit.int .i64 x).wf = true) : x ≤ 9223372036854775807 := by
  simp only [Lit.wf, Bool.and_eq_true, decide_eq_true_eq] at h
  have e2 : IntKind.i64.max = 9223372036854775807 := by decide +kernel
  omega

theorem rd64_drop (l : List S64) (i : Nat) (h : i < l.length) : l.drop i = rd_T64 l (i : Int) :: l.drop (i + 1) := by
  rw [List.drop_eq_getElem_cons h]; simp [rd_T64, h]
def legsOf (l : List S64) (a : Int) : List Int := (l.filter fun x => x.f0 == a).map fun x => x.f1
theorem legsOf_len (l : List S64) (a : Int) : (legsOf l a).length ≤ l.length := by
  unfold legsOf; rw [List.length_map]; exact List.length_filter_le _ _
theorem am_all (l : List S64) (hl : l.length ≤ 1000) (a : Int) : ∀ (d k i : Nat) (acc : List Int), l.length - i = d → i ≤ l.length → acc.length ≤ i → d < k → ledger_amounts.l0 k true a acc l (l.length : Int) (i : Int) = some (acc ++ (l.drop i).map fun x => x.f1) := by
  intro d
  induction d with
  | zero =>
    intro k i acc hd hi ha hk
    obtain ⟨k, rfl⟩ : ∃ m, k = m + 1 := ⟨k - 1, by omega⟩
    simp only [ledger_amounts.l0]
    rw [if_neg (by omega), List.drop_of_length_le (by omega)]; simp
  | succ d ih =>
    intro k i acc hd hi ha hk
    obtain ⟨k, rfl⟩ : ∃ m, k = m + 1 := ⟨k - 1, by omega⟩
    simp only [ledger_amounts.l0]
    rw [if_pos (by omega), if_pos (by omega), if_pos (by omega), if_pos trivial, if_pos (by omega), rd64_drop l i (by omega), wrap_id _ (by omega) (by omega), show ((i : Int) + 1) = ((i + 1 : Nat) : Int) by omega, ih k (i + 1) _ (by omega) (by omega) (by simp; omega) (by omega)]
    simp
theorem am_one (l : List S64) (hl : l.length ≤ 1000) (a : Int) : ∀ (d k i : Nat) (acc : List Int), l.length - i = d → i ≤ l.length → acc.length ≤ i → d < k → ledger_amounts.l0 k false a acc l (l.length : Int) (i : Int) = some (acc ++ legsOf (l.drop i) a) := by
  intro d
  induction d with
  | zero =>
    intro k i acc hd hi ha hk
    obtain ⟨k, rfl⟩ : ∃ m, k = m + 1 := ⟨k - 1, by omega⟩
    simp only [ledger_amounts.l0]
    rw [if_neg (by omega), List.drop_of_length_le (by omega)]; simp [legsOf]
  | succ d ih =>
    intro k i acc hd hi ha hk
    obtain ⟨k, rfl⟩ : ∃ m, k = m + 1 := ⟨k - 1, by omega⟩
    simp only [ledger_amounts.l0]
    rw [if_pos (by omega), if_pos (by omega), if_pos (by omega), if_neg (by simp), rd64_drop l i (by omega), wrap_id _ (by omega) (by omega), show ((i : Int) + 1) = ((i + 1 : Nat) : Int) by omega]
    by_cases h : (rd_T64 l (i : Int)).f0 = a
    · rw [if_pos h, if_pos (by omega), ih k (i + 1) _ (by omega) (by omega) (by simp; omega) (by omega)]
      simp [legsOf, h]
    · rw [if_neg h, ih k (i + 1) _ (by omega) (by omega) (by omega) (by omega)]
      simp [legsOf, h]
theorem amounts_all (l : List S64) (hl : l.length ≤ 1000) (k : Nat) (hk : l.length < k) (a : Int) : ledger_amounts.f k l true a = some (l.map fun x => x.f1) := by
  have := am_all l hl a l.length k 0 [] (by omega) (by omega) (by simp) hk
  unfold ledger_amounts.f; simpa using this
theorem amounts_one (l : List S64) (hl : l.length ≤ 1000) (k : Nat) (hk : l.length < k) (a : Int) : ledger_amounts.f k l false a = some (legsOf l a) := by
  have := am_one l hl a l.length k 0 [] (by omega) (by omega) (by simp) hk
  unfold ledger_amounts.f; simpa using this
theorem addS_sum0 : ∀ (l : List Int) (s v : Int), addS s l = (v, 0) → v = s + l.sum := by
  intro l
  induction l with
  | nil => intro s v h; simp [addS] at h; simp [h]
  | cons x xs ih =>
    intro s v h
    simp only [addS] at h
    split at h
    · rw [ih _ _ h, List.sum_cons]; omega
    · simp at h
theorem addS_app : ∀ (l m : List Int) (s v : Int), addS s l = (v, 0) → addS s (l ++ m) = addS v m := by
  intro l
  induction l with
  | nil => intro m s v h; simp [addS] at h; simp [h]
  | cons x xs ih =>
    intro m s v h
    simp only [addS, List.cons_append] at h ⊢
    split at h
    · rename_i c; rw [if_pos c]; exact ih m _ _ h
    · simp at h
def mayN (n : Nat) (l : List S64) : List S64 → Int
  | [] => if l.length = 0 ∨ 64 < l.length then 3 else if (addS 0 (l.map fun x => x.f1)).2 = 0 ∧ (addS 0 (l.map fun x => x.f1)).1 ≠ 0 then 3 else (addS 0 (l.map fun x => x.f1)).2
  | x :: xs => if 0 ≤ x.f0 ∧ x.f0 ≤ 3 * (n : Int) then (if x.f1 = 0 then 3 else mayN n l xs) else 4
theorem may_l0 (l1 : List S46) (l : List S64) (hl : l.length ≤ 1000) (hw : ∀ x ∈ l, x.f0 ≤ 9223372036854775807) : ∀ (d k i : Nat), l.length - i = d → i ≤ l.length → d + l.length + 2 < k → ledger_may.l0 k l1 l (i : Int) = some (mayN l1.length l (l.drop i)) := by
  intro d
  induction d with
  | zero =>
    intro k i hd hi hk
    obtain ⟨k, rfl⟩ : ∃ m, k = m + 1 := ⟨k - 1, by omega⟩
    simp only [ledger_may.l0]
    rw [if_neg (by omega), List.drop_of_length_le (by omega)]
    unfold ledger_may.fin
    simp only [mayN]
    by_cases c : l.length = 0 ∨ 64 < l.length
    · rw [if_pos c, if_pos c]
    · rw [if_neg c, if_neg c, amounts_all l hl k (by omega)]
      simp only [Option.bind_some]
      rw [add_eq _ (by rw [List.length_map]; omega) k (by rw [List.length_map]; omega)]
      simp only [Option.bind_some]
  | succ d ih =>
    intro k i hd hi hk
    obtain ⟨k, rfl⟩ : ∃ m, k = m + 1 := ⟨k - 1, by omega⟩
    have hm : rd_T64 l (i : Int) ∈ l := by
      have : rd_T64 l (i : Int) ∈ l.drop i := by rw [rd64_drop l i (by omega)]; simp
      exact List.mem_of_mem_drop this
    simp only [ledger_may.l0]
    rw [if_pos (by omega), if_pos (by omega), if_pos (hw _ hm), rd64_drop l i (by omega)]
    simp only [mayN]
    by_cases c : 0 ≤ (rd_T64 l (i : Int)).f0 ∧ (rd_T64 l (i : Int)).f0 ≤ 3 * (l1.length : Int)
    · rw [if_pos c, if_pos c]
      by_cases c2 : (rd_T64 l (i : Int)).f1 = 0
      · rw [if_pos c2, if_pos c2]
      · rw [if_neg c2, if_neg c2, wrap_id _ (by omega) (by omega), show ((i : Int) + 1) = ((i + 1 : Nat) : Int) by omega, ih k (i + 1) (by omega) (by omega) (by omega)]
    · rw [if_neg c, if_neg c]
theorem may_eq (a0 : Int) (l1 : List S46) (h1 : l1.length < 1000) (l : List S64) (hl : l.length ≤ 1000) (hw : ∀ x ∈ l, x.f0 ≤ 9223372036854775807) (k : Nat) (hk : 2 * l.length + 2 < k) : ledger_may.f k a0 l1 l = some (mayN l1.length l l) := by
  have := may_l0 l1 l hl hw l.length k 0 (by omega) (by omega) (by omega)
  unfold ledger_may.f; rw [if_pos (by omega)]; simpa using this
def updW (wd : Int) (i v : Int) : Int := if i = 0 then v else wd
def updO (out : List S46) (i v : Int) : List S46 := if i = 0 then out else setAcct out i v
theorem updO_len (out : List S46) (i v : Int) : (updO out i v).length = out.length := by
  unfold updO; split
  · rfl
  · unfold setAcct; rw [List.length_set]
def postS (l : List S64) : Nat → Int → Int → List S46 → Int × List S46 × Int
  | 0, _, wd, out => (wd, out, 0)
  | d + 1, i, wd, out => if legsOf l i = [] then postS l d (i + 1) wd out else
      if (addS 0 (acctOf wd out i :: legsOf l i)).2 = 0 then (if (0 < i ∧ (addS 0 (acctOf wd out i :: legsOf l i)).1 < 0) ∨ (i = 0 ∧ 0 < (addS 0 (acctOf wd out i :: legsOf l i)).1) then (0, [], 7) else postS l d (i + 1) (updW wd i (addS 0 (acctOf wd out i :: legsOf l i)).1) (updO out i (addS 0 (acctOf wd out i :: legsOf l i)).1)) else (0, [], (addS 0 (acctOf wd out i :: legsOf l i)).2)
theorem post_l0 (l : List S64) (hl : l.length ≤ 900) : ∀ (d k : Nat) (i : Int) (wd : Int) (out : List S46), out.length < 1000 → 0 ≤ i → i + (d : Int) = 1 + 3 * (out.length : Int) → d + 2000 < k → ledger_Post.l0 k l wd out i = some (postS l d i wd out) := by
  intro d
  induction d with
  | zero =>
    intro k i wd out ho hi hd hk
    obtain ⟨k, rfl⟩ : ∃ m, k = m + 1 := ⟨k - 1, by omega⟩
    simp only [ledger_Post.l0, postS]
    rw [if_neg (by omega)]
  | succ d ih =>
    intro k i wd out ho hi hd hk
    obtain ⟨k, rfl⟩ : ∃ m, k = m + 1 := ⟨k - 1, by omega⟩
    have hlen := legsOf_len l i
    simp only [ledger_Post.l0, postS]
    rw [if_pos (by omega), if_pos hi, amounts_one l (by omega) k (by omega)]
    simp only [Option.bind_some]
    rw [wrap_id _ (by omega) (by omega)]
    by_cases c : legsOf l i = []
    · rw [if_pos (by rw [c]; rfl), if_pos c]
      exact ih k (i + 1) wd out ho (by omega) (by omega) (by omega)
    · rw [if_neg (fun h => c (List.length_eq_zero_iff.mp h)), if_neg c, if_pos (by omega), add_eq _ (by simp; omega) k (by simp; omega)]
      simp only [Option.bind_some]
      have e := ih k (i + 1) (updW wd i (addS 0 (acctOf wd out i :: legsOf l i)).1) (updO out i (addS 0 (acctOf wd out i :: legsOf l i)).1) (by rw [updO_len]; exact ho) (by omega) (by rw [updO_len]; omega) (by omega)
      unfold updW updO at e ⊢
      rw [e]
      generalize addS 0 (acctOf wd out i :: legsOf l i) = p
      split
      · split <;> rfl
      · rfl
theorem post_eq (a0 : Int) (l1 : List S46) (h1 : l1.length ≤ 30) (l : List S64) (hl : l.length ≤ 900) (hw : ∀ x ∈ l, x.f0 ≤ 9223372036854775807) (k : Nat) (hk : 3000 ≤ k) :
    ledger_Post.f k a0 l1 l = some (if mayN l1.length l l = 0 then postS l (1 + 3 * l1.length) 0 a0 l1 else (0, [], mayN l1.length l l)) := by
  unfold ledger_Post.f
  rw [if_pos (by omega), may_eq a0 l1 (by omega) l (by omega) hw k (by omega)]
  simp only [Option.bind_some]
  rw [post_l0 l hl (1 + 3 * l1.length) k 0 a0 l1 (by omega) (by omega) (by omega) (by omega)]
  split <;> rfl
theorem rd_set46 (out : List S46) (j : Nat) (x : S46) (hj : j < out.length) (b : Int) : rd_T46 (out.set j x) b = if b.toNat = j then x else rd_T46 out b := by
  unfold rd_T46
  by_cases h : b.toNat = j
  · rw [if_pos h, h]; simp [hj]
  · rw [if_neg h]
    simp only [List.getD_eq_getElem?_getD]
    rw [List.getElem?_set_ne (fun e => h e.symm)]
theorem acct_upd (wd : Int) (out : List S46) (i : Int) (h0 : 0 ≤ i) (h1 : i ≤ 3 * (out.length : Int)) (v a : Int) (ha : 0 ≤ a) : acctOf (updW wd i v) (updO out i v) a = if a = i then v else acctOf wd out a := by
  unfold acctOf updW updO
  by_cases hi : i = 0
  · subst hi
    rw [if_pos rfl, if_pos rfl]
    by_cases h : a = 0
    · rw [if_pos h, if_pos h]
    · rw [if_neg h, if_neg h, if_neg h]
  · rw [if_neg hi, if_neg hi]
    by_cases h : a = 0
    · rw [if_pos h, if_pos h, if_neg (by omega)]
    · rw [if_neg h, if_neg h]
      unfold setAcct
      rw [rd_set46 _ _ _ (by omega)]
      by_cases q : ((a - 1) / 3).toNat = ((i - 1) / 3).toNat
      · rw [if_pos q]
        have q2 : (a - 1) / 3 = (i - 1) / 3 := by omega
        rw [← q2]
        have hm : (i - 1) % 3 = 0 ∨ (i - 1) % 3 = 1 ∨ (i - 1) % 3 = 2 := by omega
        have hn : (a - 1) % 3 = 0 ∨ (a - 1) % 3 = 1 ∨ (a - 1) % 3 = 2 := by omega
        by_cases e : a = i
        · subst e
          rw [if_pos rfl]
          rcases hm with hm | hm | hm <;> rw [hm] <;> rfl
        · rw [if_neg e]
          rcases hm with hm | hm | hm <;> rcases hn with hn | hn | hn <;> first | (exfalso; omega) | (rw [hm, hn]; rfl)
      · rw [if_neg q]
        by_cases e : a = i
        · subst e; exact absurd rfl q
        · rw [if_neg e]
theorem oth_upd (out : List S46) (i : Int) (h0 : 0 ≤ i) (h1 : i ≤ 3 * (out.length : Int)) (v : Int) (b : Int) : (rd_T46 (updO out i v) b).f0 = (rd_T46 out b).f0 ∧ (rd_T46 (updO out i v) b).f1 = (rd_T46 out b).f1 ∧ (rd_T46 (updO out i v) b).f2 = (rd_T46 out b).f2 := by
  unfold updO
  by_cases hi : i = 0
  · rw [if_pos hi]; exact ⟨rfl, rfl, rfl⟩
  · rw [if_neg hi]
    unfold setAcct
    rw [rd_set46 _ _ _ (by omega)]
    by_cases q : b.toNat = ((i - 1) / 3).toNat
    · rw [if_pos q]
      have e : rd_T46 out b = rd_T46 out ((i - 1) / 3) := by unfold rd_T46; rw [q]
      rw [e]
      unfold withField
      split
      · exact ⟨rfl, rfl, rfl⟩
      · split <;> exact ⟨rfl, rfl, rfl⟩
    · rw [if_neg q]; exact ⟨rfl, rfl, rfl⟩
structure Done (l : List S64) (i : Int) (d : Nat) (wd : Int) (out : List S46) (wd' : Int) (out' : List S46) : Prop where
  len : out'.length = out.length
  low : ∀ a, 0 ≤ a → a < i → acctOf wd' out' a = acctOf wd out a
  nil : ∀ a, i ≤ a → a < i + (d : Int) → legsOf l a = [] → acctOf wd' out' a = acctOf wd out a
  sum : ∀ a, i ≤ a → a < i + (d : Int) → legsOf l a ≠ [] → addS 0 (acctOf wd out a :: legsOf l a) = (acctOf wd' out' a, 0)
  pos : ∀ a, i ≤ a → a < i + (d : Int) → legsOf l a ≠ [] → (0 < a → 0 ≤ acctOf wd' out' a) ∧ (a = 0 → acctOf wd' out' a ≤ 0)
  oth : ∀ b, (rd_T46 out' b).f0 = (rd_T46 out b).f0 ∧ (rd_T46 out' b).f1 = (rd_T46 out b).f1 ∧ (rd_T46 out' b).f2 = (rd_T46 out b).f2
theorem post_done (l : List S64) : ∀ (d : Nat) (i : Int) (wd : Int) (out : List S46) (wd' : Int) (out' : List S46), 0 ≤ i → i + (d : Int) = 1 + 3 * (out.length : Int) → postS l d i wd out = (wd', out', 0) → Done l i d wd out wd' out' := by
  intro d
  induction d with
  | zero =>
    intro i wd out wd' out' h0 h1 h
    simp only [postS] at h
    obtain ⟨rfl, rfl, _⟩ : wd = wd' ∧ out = out' ∧ True := by simpa using h
    exact ⟨rfl, fun _ _ _ => rfl, fun a h1 h2 => by omega, fun a h1 h2 => by omega, fun a h1 h2 => by omega, fun _ => ⟨rfl, rfl, rfl⟩⟩
  | succ d ih =>
    intro i wd out wd' out' h0 h1 h
    simp only [postS] at h
    by_cases c : legsOf l i = []
    · rw [if_pos c] at h
      have r := ih (i + 1) wd out wd' out' (by omega) (by omega) h
      refine ⟨r.len, fun a h2 h3 => r.low a h2 (by omega), fun a h2 h3 h4 => ?_, fun a h2 h3 h4 => ?_, fun a h2 h3 h4 => ?_, r.oth⟩
      · by_cases e : a = i
        · exact r.low a (by omega) (by omega)
        · exact r.nil a (by omega) (by omega) h4
      · by_cases e : a = i
        · subst e; exact absurd c h4
        · exact r.sum a (by omega) (by omega) h4
      · by_cases e : a = i
        · subst e; exact absurd c h4
        · exact r.pos a (by omega) (by omega) h4
    · rw [if_neg c] at h
      obtain ⟨p1, p2, hp⟩ : ∃ p1 p2, addS 0 (acctOf wd out i :: legsOf l i) = (p1, p2) := ⟨_, _, rfl⟩
      rw [hp] at h
      simp only at h
      by_cases c2 : p2 = 0
      · rw [if_pos c2] at h
        subst c2
        by_cases c3 : (0 < i ∧ p1 < 0) ∨ (i = 0 ∧ 0 < p1)
        · rw [if_pos c3] at h; simp at h
        · rw [if_neg c3] at h
          have r := ih (i + 1) _ _ wd' out' (by omega) (by rw [updO_len]; omega) h
          have ui := acct_upd wd out i h0 (by omega) p1
          have ei : acctOf wd' out' i = p1 := by rw [r.low i h0 (by omega), ui i h0, if_pos rfl]
          refine ⟨by rw [r.len, updO_len], fun a h2 h3 => ?_, fun a h2 h3 h4 => ?_, fun a h2 h3 h4 => ?_, fun a h2 h3 h4 => ?_, fun b => ?_⟩
          · rw [r.low a h2 (by omega), ui a h2, if_neg (by omega)]
          · by_cases e : a = i
            · subst e; exact absurd h4 c
            · rw [r.nil a (by omega) (by omega) h4, ui a (by omega), if_neg e]
          · by_cases e : a = i
            · subst e; rw [ei]; exact hp
            · have := r.sum a (by omega) (by omega) h4
              rw [ui a (by omega), if_neg e] at this
              exact this
          · by_cases e : a = i
            · subst e; rw [ei]; exact ⟨by omega, by omega⟩
            · exact r.pos a (by omega) (by omega) h4
          · have o := oth_upd out i h0 (by omega) p1 b
            have o2 := r.oth b
            exact ⟨o2.1.trans o.1, o2.2.1.trans o.2.1, o2.2.2.trans o.2.2⟩
      · rw [if_neg c2] at h
        simp at h; exact absurd h.2.2 c2
theorem may_all (n : Nat) (l : List S64) (h2 : ¬ (l.length = 0 ∨ 64 < l.length)) (h3 : addS 0 (l.map fun x => x.f1) = (0, 0)) : ∀ (m : List S64), (∀ x ∈ m, 0 ≤ x.f0 ∧ x.f0 ≤ 3 * (n : Int) ∧ x.f1 ≠ 0) → mayN n l m = 0 := by
  intro m
  induction m with
  | nil => intro _; simp only [mayN]; rw [if_neg h2, h3, if_neg (by simp)]
  | cons x xs ih =>
    intro h
    have hx := h x (List.mem_cons_self ..)
    simp only [mayN]
    rw [if_pos ⟨hx.1, hx.2.1⟩, if_neg hx.2.2]
    exact ih fun y hy => h y (List.mem_cons_of_mem _ hy)
theorem post_told (l : List S64) (tgt : Int → Int) : ∀ (d : Nat) (i : Int) (wd : Int) (out : List S46), 0 ≤ i → i + (d : Int) = 1 + 3 * (out.length : Int) →
    (∀ a, i ≤ a → a < i + (d : Int) → legsOf l a ≠ [] → addS 0 (acctOf wd out a :: legsOf l a) = (tgt a, 0) ∧ ¬ ((0 < a ∧ tgt a < 0) ∨ (a = 0 ∧ 0 < tgt a))) → ∃ wd' out', postS l d i wd out = (wd', out', 0) := by
  intro d
  induction d with
  | zero => intro i wd out _ _ _; exact ⟨wd, out, rfl⟩
  | succ d ih =>
    intro i wd out h0 h1 h
    simp only [postS]
    by_cases c : legsOf l i = []
    · rw [if_pos c]
      exact ih (i + 1) wd out (by omega) (by omega) fun a h2 h3 h4 => h a (by omega) (by omega) h4
    · obtain ⟨e1, e2⟩ := h i (by omega) (by omega) c
      rw [if_neg c, e1, if_pos rfl, if_neg e2]
      refine ih (i + 1) _ _ (by omega) (by rw [updO_len]; omega) fun a h2 h3 h4 => ?_
      rw [acct_upd wd out i h0 (by omega) _ a (by omega), if_neg (by omega)]
      exact h a (by omega) (by omega) h4
theorem addS_cons0 (s : Int) (l : List Int) (h : fitB s = true) : addS 0 (s :: l) = addS s l := by
  simp only [addS]; rw [Int.zero_add, h, Bool.and_self, if_pos rfl]
theorem ext46 (a b : List S46) (hl : a.length = b.length) (h : ∀ i : Nat, i < a.length → rd_T46 a (i : Int) = rd_T46 b (i : Int)) : a = b := by
  refine List.ext_getElem hl fun i h1 h2 => ?_
  have := h i h1
  simpa [rd_T46, h1, h2] using this
theorem fields46 (a b : S46) (h0 : a.f0 = b.f0) (h1 : a.f1 = b.f1) (h2 : a.f2 = b.f2) (h3 : a.f3 = b.f3) (h4 : a.f4 = b.f4) (h5 : a.f5 = b.f5) : a = b := by
  cases a; cases b; simp_all
theorem acct_fields (wd : Int) (out : List S46) (i : Nat) : acctOf wd out (1 + 3 * (i : Int)) = (rd_T46 out (i : Int)).f3 ∧ acctOf wd out (1 + 3 * (i : Int) + 1) = (rd_T46 out (i : Int)).f4 ∧ acctOf wd out (1 + 3 * (i : Int) + 2) = (rd_T46 out (i : Int)).f5 := by
  unfold acctOf
  rw [if_neg (by omega), if_neg (by omega), if_neg (by omega)]
  refine ⟨?_, ?_, ?_⟩
  · rw [show (1 + 3 * (i : Int) - 1) / 3 = (i : Int) by omega, show (1 + 3 * (i : Int) - 1) % 3 = 0 by omega]; rfl
  · rw [show (1 + 3 * (i : Int) + 1 - 1) / 3 = (i : Int) by omega, show (1 + 3 * (i : Int) + 1 - 1) % 3 = 1 by omega]; rfl
  · rw [show (1 + 3 * (i : Int) + 2 - 1) / 3 = (i : Int) by omega, show (1 + 3 * (i : Int) + 2 - 1) % 3 = 2 by omega]; rfl
theorem same_l0 (a b : List S46) (hl : a.length = b.length) (hb : a.length < 9223372036854775807) (h : a = b) : ∀ (d k i : Nat), a.length - i = d → i ≤ a.length → d < k → prebendref09_Same.l0 k a b (i : Int) = some true := by
  subst h
  intro d
  induction d with
  | zero =>
    intro k i hd hi hk
    obtain ⟨k, rfl⟩ : ∃ m, k = m + 1 := ⟨k - 1, by omega⟩
    simp only [prebendref09_Same.l0]; rw [if_neg (by omega)]
  | succ d ih =>
    intro k i hd hi hk
    obtain ⟨k, rfl⟩ : ∃ m, k = m + 1 := ⟨k - 1, by omega⟩
    simp only [prebendref09_Same.l0]
    rw [if_pos (by omega), if_pos (by omega), if_pos (by omega), if_neg (by simp), wrap_id _ (by omega) (by omega), show ((i : Int) + 1) = ((i + 1 : Nat) : Int) by omega]
    exact ih k (i + 1) (by omega) (by omega) (by omega)
theorem same_eq (a : List S46) (hb : a.length < 9223372036854775807) (k : Nat) (hk : a.length < k) : prebendref09_Same.f k a a = some true := by
  unfold prebendref09_Same.f
  rw [if_pos rfl]
  have := same_l0 a a rfl hb rfl a.length k 0 (by omega) (by omega) hk
  simpa using this
def chg : List S37 → Int → List S37 → List S37 × Int
  | [], am, out => if am > 0 then ([], 7) else (out, 0)
  | d :: r, am, out => if d.f1 < 0 then ([], 7) else chg r (am - min am d.f1) (out ++ [⟨d.f0, min am d.f1⟩])
theorem rd37_mid (pre post : List S37) (x : S37) (i : Int) (hi : i = pre.length) : rd_T37 (pre ++ x :: post) i = x := by
  subst hi
  simp [rd_T37]
theorem chg_l0 (ds : List S37) (hl : ds.length < 1000000) : ∀ (r pre out : List S37) (am : Int), ds = pre ++ r → out.length = pre.length → 0 ≤ am → am < 9223372036854775808 → Ev (fun k => draw_Charge.l0 k ds (out ++ r) am (pre.length : Int)) (chg r am out)
  | [], pre, out, am, hd, ho, h0, h1 => by
    refine Ev.step (f := fun _ => some (chg [] am out)) (fun k => ?_) (Ev.now _)
    simp only [draw_Charge.l0, chg]
    rw [if_neg (by rw [hd]; simp), List.append_nil]
    split <;> rfl
  | d :: r, pre, out, am, hd, ho, h0, h1 => by
    have hdl : ds.length = pre.length + r.length + 1 := by rw [hd]; simp; omega
    have hx : rd_T37 ds (pre.length : Int) = d := by rw [hd]; exact rd37_mid _ _ _ _ rfl
    have hy : rd_T37 (out ++ d :: r) (pre.length : Int) = d := rd37_mid _ _ _ _ (by omega)
    by_cases c : d.f1 < 0
    · refine Ev.step (f := fun _ => some ([], 7)) (fun k => ?_) (by simp only [chg]; rw [if_pos c]; exact Ev.now _)
      simp only [draw_Charge.l0]
      rw [if_pos (by omega), if_pos (by omega), hx, if_pos c]
    · have ih := chg_l0 ds hl r (pre ++ [d]) (out ++ [⟨d.f0, min am d.f1⟩]) (am - min am d.f1) (by rw [hd]; simp) (by simp; omega) (by omega) (by omega)
      simp only [chg]
      rw [if_neg c]
      refine Ev.step (fun k => ?_) ih
      simp only [draw_Charge.l0]
      have hset : (out ++ d :: r).set ((pre.length : Int)).toNat (⟨d.f0, min am d.f1⟩ : S37) = (out ++ [(⟨d.f0, min am d.f1⟩ : S37)]) ++ r := by
        rw [show ((pre.length : Int)).toNat = out.length by omega]
        simp
      rw [if_pos (by omega), if_pos (by omega), hx, hy, if_neg c, hset, show wrap64 (am - min am d.f1) = am - min am d.f1 by unfold wrap64; omega, show wrap64 ((pre.length : Int) + 1) = (((pre ++ [d]).length : Nat) : Int) by simp; unfold wrap64; omega]
def chargeS (ds : List S37) (am : Int) : List S37 × Int := if am < 0 then ([], 1) else chg ds am []
theorem charge_f (ds : List S37) (hl : ds.length < 1000000) (am : Int) (h1 : am < 9223372036854775808) : Ev (fun k => draw_Charge.f k ds am) (chargeS ds am) := by
  unfold chargeS
  by_cases c : am < 0
  · rw [if_pos c]; exact Ev.congr (f := fun _ => some ([], 1)) (fun k => by unfold draw_Charge.f; rw [if_pos c]) (Ev.now _)
  · rw [if_neg c]
    refine Ev.congr (fun k => ?_) (chg_l0 ds hl ds [] [] am rfl rfl (by omega) h1)
    unfold draw_Charge.f; rw [if_neg c, if_pos (by omega)]; rfl
def leg1 (fr tt rest : Int) (x y : S37) : List S64 := if x.f1 = 0 then [] else (⟨wrap64 (fr + wrap64 (3 * x.f0)), wrap64 (-x.f1)⟩ : S64) :: ((if y.f1 = 0 then [] else [(⟨wrap64 (tt + wrap64 (3 * x.f0)), y.f1⟩ : S64)]) ++ (if wrap64 (x.f1 - y.f1) = 0 then [] else [(⟨wrap64 (rest + wrap64 (3 * x.f0)), wrap64 (x.f1 - y.f1)⟩ : S64)]))
def legsS (fr tt rest : Int) : List S37 → List S37 → List S64
  | x :: xs, y :: ys => leg1 fr tt rest x y ++ legsS fr tt rest xs ys
  | _, _ => []
theorem leg1_len (fr tt rest : Int) (x y : S37) : (leg1 fr tt rest x y).length ≤ 3 := by
  unfold leg1
  split
  · simp
  · split <;> split <;> simp
theorem legsS_len (fr tt rest : Int) : ∀ xs ys : List S37, (legsS fr tt rest xs ys).length ≤ 3 * xs.length
  | [], ys => by simp [legsS]
  | x :: xs, [] => by simp [legsS]
  | x :: xs, y :: ys => by
    simp only [legsS, List.length_append, List.length_cons]
    have := leg1_len fr tt rest x y
    have := legsS_len fr tt rest xs ys
    omega
theorem wz : wrap64 0 = 0 := by unfold wrap64; omega
theorem move_l0 (fr tt rest : Int) (d : List S37) (hl : d.length ≤ 1000) : ∀ (xs pre : List S37) (acc : List S64), d = pre ++ xs → acc.length + 3 * xs.length ≤ 1000000 →
    Ev (fun k => draw_move.l0 k fr tt acc d (d.length : Int) (pre.length : Int)) (acc ++ legsS fr tt rest xs xs)
  | [], pre, acc, hd, hb => by
    refine Ev.step (f := fun _ => some acc) (fun k => ?_) (by simpa [legsS] using Ev.now acc)
    simp only [draw_move.l0]
    rw [if_neg (by rw [hd]; simp)]
    simp [slices_Clip_Leg.f]
  | x :: xs, pre, acc, hd, hb => by
    have hdl : d.length = pre.length + xs.length + 1 := by rw [hd]; simp; omega
    have hx : rd_T37 d (pre.length : Int) = x := by rw [hd]; exact rd37_mid _ _ _ _ rfl
    have hw : wrap64 ((pre.length : Int) + 1) = (((pre ++ [x]).length : Nat) : Int) := by simp; unfold wrap64; omega
    have h1 := leg1_len fr tt rest x x
    simp only [List.length_cons] at hb
    have ih := move_l0 fr tt rest d hl xs (pre ++ [x]) (acc ++ leg1 fr tt rest x x) (by rw [hd]; simp) (by simp only [List.length_append]; omega)
    rw [List.append_assoc] at ih
    refine Ev.step (fun k => ?_) ih
    simp only [draw_move.l0]
    rw [if_pos (by omega), if_pos (by omega), if_pos (by omega), hx, hw]
    by_cases c1 : x.f1 = 0
    · rw [if_pos c1]
      have : leg1 fr tt rest x x = [] := by unfold leg1; rw [if_pos c1]
      rw [this, List.append_nil]
    · rw [if_neg c1]
      simp only [draw_acct.f, Option.bind_some]
      rw [if_pos (by simp; omega)]
      have : leg1 fr tt rest x x = [⟨wrap64 (wrap64 (3 * x.f0) + fr), wrap64 (-x.f1)⟩, ⟨wrap64 (wrap64 (3 * x.f0) + tt), x.f1⟩] := by
        unfold leg1
        rw [if_neg c1, if_neg c1, if_pos (by rw [Int.sub_self]; exact wz), Int.add_comm fr, Int.add_comm tt]; rfl
      rw [this]
theorem move_f (fr tt rest : Int) (d : List S37) (hl : d.length ≤ 1000) : Ev (fun k => draw_move.f k d fr tt) (legsS fr tt rest d d) := by
  have := move_l0 fr tt rest d hl d [] [] rfl (by simp; omega)
  simpa [draw_move.f] using this
theorem spend1_f (a kd n : Int) (out : List S64) (hb : out.length < 1000000) : draw_Spend_1.f a kd n out = some (out ++ (if n = 0 then [] else [(⟨wrap64 (kd + wrap64 (3 * a)), n⟩ : S64)])) := by
  unfold draw_Spend_1.f
  by_cases c : n = 0
  · rw [if_pos c, if_pos c, List.append_nil]
  · rw [if_neg c, if_neg c]
    simp only [draw_acct.f, Option.bind_some]
    rw [if_pos hb, Int.add_comm kd]
theorem spendL_l0 (d c : List S37) (hl : d.length ≤ 1000) (hn : ∀ x ∈ d, -1152921504606846976 ≤ x.f1 ∧ x.f1 ≤ 1152921504606846976) : ∀ (xs ys pre pre2 : List S37) (acc : List S64), d = pre ++ xs → c = pre2 ++ ys → pre.length = pre2.length → xs.length = ys.length → acc.length + 3 * xs.length ≤ 100000 →
    Ev (fun k => draw_Spend.l0 k d c acc (pre.length : Int)) (acc ++ legsS 2 3 1 xs ys)
  | [], ys, pre, pre2, acc, hd, hc, hp, hxy, hb => by
    refine Ev.step (f := fun _ => some acc) (fun k => ?_) (by simpa [legsS] using Ev.now acc)
    simp only [draw_Spend.l0]
    rw [if_neg (by rw [hd]; simp)]
  | x :: xs, [], pre, pre2, acc, hd, hc, hp, hxy, hb => by simp at hxy
  | x :: xs, y :: ys, pre, pre2, acc, hd, hc, hp, hxy, hb => by
    have hdl : d.length = pre.length + xs.length + 1 := by rw [hd]; simp; omega
    have hx : rd_T37 d (pre.length : Int) = x := by rw [hd]; exact rd37_mid _ _ _ _ rfl
    have hy : rd_T37 c (pre.length : Int) = y := by rw [hc]; exact rd37_mid _ _ _ _ (by omega)
    have hw : wrap64 ((pre.length : Int) + 1) = (((pre ++ [x]).length : Nat) : Int) := by simp; unfold wrap64; omega
    have h1 := leg1_len 2 3 1 x y
    have hxn := hn x (by rw [hd]; simp)
    simp only [List.length_cons] at hxy hb
    have ih := spendL_l0 d c hl hn xs ys (pre ++ [x]) (pre2 ++ [y]) (acc ++ leg1 2 3 1 x y) (by rw [hd]; simp) (by rw [hc]; simp) (by simp; omega) (by omega) (by simp only [List.length_append]; omega)
    rw [List.append_assoc] at ih
    refine Ev.step (fun k => ?_) ih
    simp only [draw_Spend.l0]
    rw [if_pos (by omega), hx, hy, hw]
    by_cases c1 : x.f1 = 0
    · rw [if_pos c1]
      have : leg1 2 3 1 x y = [] := by unfold leg1; rw [if_pos c1]
      rw [this, List.append_nil]
    · rw [if_neg c1, spend1_f _ _ _ _ (by omega), Option.bind_some, spend1_f _ _ _ _ (by rw [List.length_append]; split <;> simp <;> omega), Option.bind_some, spend1_f _ _ _ _ (by rw [List.length_append, List.length_append]; split <;> split <;> simp <;> omega), Option.bind_some]
      rw [if_neg (by unfold wrap64; omega)]
      unfold leg1
      rw [if_neg c1]
      simp [List.append_assoc]
theorem spendL_f (d c : List S37) (hl : d.length ≤ 1000) (hn : ∀ x ∈ d, -1152921504606846976 ≤ x.f1 ∧ x.f1 ≤ 1152921504606846976) (hc : d.length = c.length) : Ev (fun k => draw_Spend.f k d c) (legsS 2 3 1 d c) := by
  have := spendL_l0 d c hl hn d c [] [] [] rfl rfl rfl hc (by simp; omega)
  refine Ev.congr (fun k => ?_) this
  unfold draw_Spend.f
  rw [if_pos (by omega), if_pos (by omega)]; rfl

def nz (v : Int) : List Int := if v = 0 then [] else [v]
def amt : List S37 → Int → Int
  | [], _ => 0
  | x :: r, m => if x.f0 = m then x.f1 else amt r m
inductive DC (n : Nat) : List S37 → List S37 → Prop
  | nil : DC n [] []
  | cons (x y : S37) (xs ys : List S37) (h1 : y.f0 = x.f0) (h2 : 0 ≤ x.f0) (h3 : x.f0 < (n : Int)) (h4 : 0 ≤ y.f1) (h5 : y.f1 ≤ x.f1) (h6 : x.f1 ≤ 1125899906842624) (h7 : ∀ z ∈ xs, z.f0 ≠ x.f0) (h : DC n xs ys) : DC n (x :: xs) (y :: ys)
theorem DC.mem {n : Nat} {xs ys : List S37} (h : DC n xs ys) : ∀ m, (∀ z ∈ xs, z.f0 ≠ m) → ∀ z ∈ ys, z.f0 ≠ m := by
  induction h with
  | nil => intro m _ z hz; cases hz
  | cons x y xs ys h1 h2 h3 h4 h5 h6 h7 h ih =>
    intro m hm z hz
    rcases List.mem_cons.mp hz with rfl | hz
    · rw [h1]; exact hm x (List.mem_cons_self ..)
    · exact ih m (fun w hw => hm w (List.mem_cons_of_mem _ hw)) z hz
theorem DC.snd {n : Nat} {xs ys : List S37} (h : DC n xs ys) : DC n ys ys := by
  induction h with
  | nil => exact .nil
  | cons x y xs ys h1 h2 h3 h4 h5 h6 h7 h ih =>
    exact .cons y y ys ys rfl (by omega) (by omega) (by omega) (Int.le_refl _) (by omega) (fun z hz => by rw [h1]; exact h.mem _ h7 z hz) ih
theorem amt_none : ∀ (xs : List S37) (m : Int), (∀ z ∈ xs, z.f0 ≠ m) → amt xs m = 0
  | [], m, _ => rfl
  | x :: xs, m, h => by
    rw [amt, if_neg (h x (List.mem_cons_self ..))]
    exact amt_none xs m (fun z hz => h z (List.mem_cons_of_mem _ hz))
theorem DC.bd {n : Nat} {xs ys : List S37} (h : DC n xs ys) (m : Int) : 0 ≤ amt ys m ∧ amt ys m ≤ amt xs m ∧ amt xs m ≤ 1125899906842624 := by
  induction h with
  | nil => simp [amt]
  | cons x y xs ys h1 h2 h3 h4 h5 h6 h7 h ih =>
    simp only [amt, h1]
    by_cases c : x.f0 = m
    · rw [if_pos c, if_pos c]; omega
    · rw [if_neg c, if_neg c]; exact ih
theorem legsOf_app (a b : List S64) (k : Int) : legsOf (a ++ b) k = legsOf a k ++ legsOf b k := by simp [legsOf]
theorem legsOf_one (a v k : Int) : legsOf [(⟨a, v⟩ : S64)] k = if a = k then [v] else [] := by
  unfold legsOf
  by_cases c : a = k
  · rw [if_pos c]; simp [c]
  · rw [if_neg c]; simp [c]
theorem legsOf_nz (a v k : Int) : legsOf (if v = 0 then [] else [(⟨a, v⟩ : S64)]) k = if a = k then nz v else [] := by
  unfold nz
  by_cases c : v = 0
  · rw [if_pos c, if_pos c]; simp [legsOf]
  · rw [if_neg c, if_neg c]; exact legsOf_one a v k
def sel (fr tt k x y : Int) : Int := if k = fr then -x else if k = tt then y else x - y
def Kinds (fr tt rest : Int) : Prop := (1 ≤ fr ∧ fr ≤ 3) ∧ (1 ≤ tt ∧ tt ≤ 3) ∧ (1 ≤ rest ∧ rest ≤ 3) ∧ fr ≠ tt ∧ fr ≠ rest ∧ tt ≠ rest
theorem leg1_eq {fr tt rest : Int} (hk : Kinds fr tt rest) {n : Nat} (hn : n ≤ 1000) (x y : S37) (h2 : 0 ≤ x.f0) (h3 : x.f0 < (n : Int)) (h4 : 0 ≤ y.f1) (h5 : y.f1 ≤ x.f1) (h6 : x.f1 ≤ 1125899906842624) :
    leg1 fr tt rest x y = (if -x.f1 = 0 then [] else [(⟨fr + 3 * x.f0, -x.f1⟩ : S64)]) ++ ((if y.f1 = 0 then [] else [(⟨tt + 3 * x.f0, y.f1⟩ : S64)]) ++ (if x.f1 - y.f1 = 0 then [] else [(⟨rest + 3 * x.f0, x.f1 - y.f1⟩ : S64)])) := by
  unfold Kinds at hk
  have e0 : wrap64 (3 * x.f0) = 3 * x.f0 := by unfold wrap64; omega
  have e1 : wrap64 (fr + 3 * x.f0) = fr + 3 * x.f0 := by unfold wrap64; omega
  have e2 : wrap64 (tt + 3 * x.f0) = tt + 3 * x.f0 := by unfold wrap64; omega
  have e3 : wrap64 (rest + 3 * x.f0) = rest + 3 * x.f0 := by unfold wrap64; omega
  have e4 : wrap64 (-x.f1) = -x.f1 := by unfold wrap64; omega
  have e5 : wrap64 (x.f1 - y.f1) = x.f1 - y.f1 := by unfold wrap64; omega
  unfold leg1
  rw [e0, e1, e2, e3, e4, e5]
  by_cases c : x.f1 = 0
  · rw [if_pos c, if_pos (show -x.f1 = 0 by omega), if_pos (show y.f1 = 0 by omega), if_pos (show x.f1 - y.f1 = 0 by omega)]; rfl
  · rw [if_neg c, if_neg (show ¬ (-x.f1 = 0) by omega)]; rfl
theorem leg1_of {fr tt rest : Int} (hk : Kinds fr tt rest) {n : Nat} (hn : n ≤ 1000) (x y : S37) (h2 : 0 ≤ x.f0) (h3 : x.f0 < (n : Int)) (h4 : 0 ≤ y.f1) (h5 : y.f1 ≤ x.f1) (h6 : x.f1 ≤ 1125899906842624) (k m : Int) (k1 : 1 ≤ k) (k2 : k ≤ 3) :
    legsOf (leg1 fr tt rest x y) (k + 3 * m) = if x.f0 = m then nz (sel fr tt k x.f1 y.f1) else [] := by
  rw [leg1_eq hk hn x y h2 h3 h4 h5 h6, legsOf_app, legsOf_app, legsOf_nz, legsOf_nz, legsOf_nz]
  unfold Kinds at hk
  unfold sel
  by_cases c : x.f0 = m
  · rw [if_pos c]
    by_cases a1 : k = fr
    · rw [if_pos (by omega), if_neg (by omega), if_neg (by omega), if_pos a1]; simp
    · by_cases a2 : k = tt
      · rw [if_neg (by omega), if_pos (by omega), if_neg (by omega), if_neg a1, if_pos a2]; simp
      · rw [if_neg (by omega), if_neg (by omega), if_pos (by omega), if_neg a1, if_neg a2]; simp
  · rw [if_neg c, if_neg (by omega), if_neg (by omega), if_neg (by omega)]; rfl
theorem nz0 (fr tt k : Int) : nz (sel fr tt k 0 0) = [] := by
  have e : sel fr tt k 0 0 = 0 := by
    unfold sel
    by_cases a : k = fr
    · rw [if_pos a]; rfl
    · rw [if_neg a]; by_cases b : k = tt <;> simp [b]
  rw [e]; rfl
theorem legs_of {fr tt rest : Int} (hk : Kinds fr tt rest) {n : Nat} (hn : n ≤ 1000) {xs ys : List S37} (h : DC n xs ys) (k m : Int) (k1 : 1 ≤ k) (k2 : k ≤ 3) : legsOf (legsS fr tt rest xs ys) (k + 3 * m) = nz (sel fr tt k (amt xs m) (amt ys m)) := by
  induction h with
  | nil => simp only [legsS, amt]; rw [nz0]; rfl
  | cons x y xs ys h1 h2 h3 h4 h5 h6 h7 h ih =>
    simp only [legsS, amt, h1]
    rw [legsOf_app, ih, leg1_of hk hn x y h2 h3 h4 h5 h6 k m k1 k2]
    by_cases c : x.f0 = m
    · subst c
      rw [if_pos rfl, if_pos rfl, if_pos rfl, amt_none xs _ h7, amt_none ys _ (h.mem _ h7), nz0, List.append_nil]
    · rw [if_neg c, if_neg c, if_neg c, List.nil_append]
theorem leg1_in {fr tt rest : Int} (hk : Kinds fr tt rest) {n : Nat} (hn : n ≤ 1000) (x y : S37) (h2 : 0 ≤ x.f0) (h3 : x.f0 < (n : Int)) (h4 : 0 ≤ y.f1) (h5 : y.f1 ≤ x.f1) (h6 : x.f1 ≤ 1125899906842624) :
    ∀ z ∈ leg1 fr tt rest x y, 1 ≤ z.f0 ∧ z.f0 ≤ 3 * (n : Int) ∧ z.f1 ≠ 0 := by
  rw [leg1_eq hk hn x y h2 h3 h4 h5 h6]
  unfold Kinds at hk
  intro z hz
  rcases List.mem_append.mp hz with hz | hz
  · split at hz
    · cases hz
    · rw [List.mem_singleton.mp hz]; exact ⟨by show 1 ≤ fr + 3 * x.f0; omega, by show fr + 3 * x.f0 ≤ _; omega, by assumption⟩
  · rcases List.mem_append.mp hz with hz | hz
    · split at hz
      · cases hz
      · rw [List.mem_singleton.mp hz]; exact ⟨by show 1 ≤ tt + 3 * x.f0; omega, by show tt + 3 * x.f0 ≤ _; omega, by assumption⟩
    · split at hz
      · cases hz
      · rw [List.mem_singleton.mp hz]; exact ⟨by show 1 ≤ rest + 3 * x.f0; omega, by show rest + 3 * x.f0 ≤ _; omega, by assumption⟩
theorem legs_in {fr tt rest : Int} (hk : Kinds fr tt rest) {n : Nat} (hn : n ≤ 1000) {xs ys : List S37} (h : DC n xs ys) : ∀ z ∈ legsS fr tt rest xs ys, 1 ≤ z.f0 ∧ z.f0 ≤ 3 * (n : Int) ∧ z.f1 ≠ 0 := by
  induction h with
  | nil => intro z hz; simp [legsS] at hz
  | cons x y xs ys h1 h2 h3 h4 h5 h6 h7 h ih =>
    intro z hz
    simp only [legsS] at hz
    rcases List.mem_append.mp hz with hz | hz
    · exact leg1_in hk hn x y h2 h3 h4 h5 h6 z hz
    · exact ih z hz
theorem fit_of {v : Int} (h1 : -1152921504606846976 ≤ v) (h2 : v ≤ 1152921504606846976) : fitB v = true := by unfold fitB; simp; omega
theorem addS_nz (s v : Int) (h1 : -1152921504606846976 ≤ v) (h2 : v ≤ 1152921504606846976) (h3 : -1152921504606846976 ≤ s + v) (h4 : s + v ≤ 1152921504606846976) : addS s (nz v) = (s + v, 0) := by
  unfold nz
  by_cases c : v = 0
  · rw [if_pos c, c]; simp [addS]
  · rw [if_neg c]; simp [addS, fit_of h1 h2, fit_of h3 h4]
theorem map_nz (a v : Int) : (if v = 0 then [] else [(⟨a, v⟩ : S64)]).map (fun x => x.f1) = nz v := by unfold nz; split <;> rfl
theorem legs_sum {fr tt rest : Int} (hk : Kinds fr tt rest) {n : Nat} (hn : n ≤ 1000) {xs ys : List S37} (h : DC n xs ys) : addS 0 ((legsS fr tt rest xs ys).map fun x => x.f1) = (0, 0) := by
  induction h with
  | nil => simp [legsS, addS]
  | cons x y xs ys h1 h2 h3 h4 h5 h6 h7 h ih =>
    simp only [legsS]
    rw [List.map_append, leg1_eq hk hn x y h2 h3 h4 h5 h6, List.map_append, List.map_append, map_nz, map_nz, map_nz]
    have e1 : addS 0 (nz (-x.f1)) = (-x.f1, 0) := by rw [addS_nz 0 _ (by omega) (by omega) (by omega) (by omega)]; simp
    have e2 : addS (-x.f1) (nz y.f1) = (-x.f1 + y.f1, 0) := addS_nz _ _ (by omega) (by omega) (by omega) (by omega)
    have e3 : addS (-x.f1 + y.f1) (nz (x.f1 - y.f1)) = (0, 0) := by rw [addS_nz _ _ (by omega) (by omega) (by omega) (by omega)]; congr 1; omega
    rw [List.append_assoc, addS_app _ _ _ _ e1, List.append_assoc, addS_app _ _ _ _ e2, addS_app _ _ _ _ e3]
    exact ih
theorem post_legs {fr tt rest : Int} (hk : Kinds fr tt rest) {xs ys : List S37} {out : List S46} (hn : out.length ≤ 16) (h : DC out.length xs ys) (hl : xs.length ≤ 16) (hx : ∃ x ∈ xs, x.f1 ≠ 0)
    (hb : ∀ m : Nat, m < out.length → (0 ≤ (rd_T46 out m).f3 ∧ (rd_T46 out m).f3 ≤ 4503599627370496 ∧ 0 ≤ (rd_T46 out m).f3 + sel fr tt 1 (amt xs m) (amt ys m)) ∧ (0 ≤ (rd_T46 out m).f4 ∧ (rd_T46 out m).f4 ≤ 4503599627370496 ∧ 0 ≤ (rd_T46 out m).f4 + sel fr tt 2 (amt xs m) (amt ys m)) ∧ (0 ≤ (rd_T46 out m).f5 ∧ (rd_T46 out m).f5 ≤ 4503599627370496 ∧ 0 ≤ (rd_T46 out m).f5 + sel fr tt 3 (amt xs m) (amt ys m))) :
    mayN out.length (legsS fr tt rest xs ys) (legsS fr tt rest xs ys) = 0 ∧ ∃ out' : List S46, postS (legsS fr tt rest xs ys) (1 + 3 * out.length) 0 0 out = (0, out', 0) ∧ out'.length = out.length ∧
      ∀ m : Nat, m < out.length → rd_T46 out' m = ⟨(rd_T46 out m).f0, (rd_T46 out m).f1, (rd_T46 out m).f2, (rd_T46 out m).f3 + sel fr tt 1 (amt xs m) (amt ys m), (rd_T46 out m).f4 + sel fr tt 2 (amt xs m) (amt ys m), (rd_T46 out m).f5 + sel fr tt 3 (amt xs m) (amt ys m)⟩ := by
  have hin := legs_in hk (by omega) h
  have hlen := legsS_len fr tt rest xs ys
  have hne : legsS fr tt rest xs ys ≠ [] := by
    obtain ⟨x, hx, hx1⟩ := hx
    intro e
    have : ∀ {xs ys : List S37}, DC out.length xs ys → legsS fr tt rest xs ys = [] → ∀ x ∈ xs, x.f1 = 0 := by
      intro xs ys h
      induction h with
      | nil => intro _ x hx; cases hx
      | cons x y xs ys h1 h2 h3 h4 h5 h6 h7 h ih =>
        intro e z hz
        simp only [legsS, List.append_eq_nil_iff] at e
        rcases List.mem_cons.mp hz with rfl | hz
        · have e1 := e.1
          unfold leg1 at e1
          by_cases c : z.f1 = 0
          · exact c
          · rw [if_neg c] at e1; cases e1
        · exact ih e.2 z hz
    exact hx1 (this h e x hx)
  have hsum := legs_sum hk (by omega) h
  have hlen0 : ¬ ((legsS fr tt rest xs ys).length = 0 ∨ 64 < (legsS fr tt rest xs ys).length) := by
    rintro (q | q)
    · exact hne (List.length_eq_zero_iff.mp q)
    · omega
  refine ⟨may_all _ _ hlen0 hsum _ (fun z hz => ?_), ?_⟩
  · obtain ⟨a1, a2, a3⟩ := hin z hz; exact ⟨by omega, a2, a3⟩
  have hl0 : legsOf (legsS fr tt rest xs ys) 0 = [] := by
    unfold legsOf
    rw [List.filter_eq_nil_iff.mpr (fun z hz => by have := (hin z hz).1; simp; omega)]; rfl
  have hof := fun k m k1 k2 => legs_of hk (show out.length ≤ 1000 by omega) h k m k1 k2
  have hf : ∀ a : Int, 1 ≤ a → a < 1 + 3 * (out.length : Int) → ∃ k : Int, ∃ m : Nat, m < out.length ∧ 1 ≤ k ∧ k ≤ 3 ∧ a = k + 3 * (m : Int) := by
    intro a h1 h2
    exact ⟨(a - 1) % 3 + 1, ((a - 1) / 3).toNat, by omega, by omega, by omega, by omega⟩
  have hac : ∀ (k : Int) (m : Nat), m < out.length → 1 ≤ k → k ≤ 3 → 0 ≤ acctOf 0 out (k + 3 * (m : Int)) ∧ acctOf 0 out (k + 3 * (m : Int)) ≤ 4503599627370496 ∧ 0 ≤ acctOf 0 out (k + 3 * (m : Int)) + sel fr tt k (amt xs m) (amt ys m) := by
    intro k m hm k1 k2
    obtain ⟨f1, f2, f3⟩ := acct_fields 0 out m
    obtain ⟨b1, b2, b3⟩ := hb m hm
    have : k = 1 ∨ k = 2 ∨ k = 3 := by omega
    rcases this with rfl | rfl | rfl
    · rw [f1]; exact b1
    · rw [show (2 : Int) + 3 * (m : Int) = 1 + 3 * (m : Int) + 1 by omega, f2]; exact b2
    · rw [show (3 : Int) + 3 * (m : Int) = 1 + 3 * (m : Int) + 2 by omega, f3]; exact b3
  obtain ⟨wd', out', hp⟩ := post_told (legsS fr tt rest xs ys) (fun a => acctOf 0 out a + (legsOf (legsS fr tt rest xs ys) a).sum) (1 + 3 * out.length) 0 0 out (Int.le_refl _) (by omega) (fun a a0 a1 hna => by
    by_cases ha : a = 0
    · subst ha; exact absurd hl0 hna
    obtain ⟨k, m, hm, k1, k2, rfl⟩ := hf a (by omega) (by omega)
    obtain ⟨c1, c2, c3⟩ := hac k m hm k1 k2
    have hbd := h.bd m
    have hs : -1125899906842624 ≤ sel fr tt k (amt xs m) (amt ys m) ∧ sel fr tt k (amt xs m) (amt ys m) ≤ 1125899906842624 := by
      unfold sel
      by_cases q1 : k = fr
      · rw [if_pos q1]; omega
      · rw [if_neg q1]
        by_cases q2 : k = tt
        · rw [if_pos q2]; omega
        · rw [if_neg q2]; omega
    rw [hof k m k1 k2]
    have hv : (nz (sel fr tt k (amt xs m) (amt ys m))).sum = sel fr tt k (amt xs m) (amt ys m) := by unfold nz; split <;> simp_all
    rw [hv, addS_cons0 _ _ (fit_of (by omega) (by omega)), addS_nz _ _ (by omega) (by omega) (by omega) (by omega)]
    exact ⟨rfl, by omega⟩)
  have D := post_done _ _ _ _ _ _ _ (Int.le_refl _) (by omega) hp
  have hacc : ∀ a, 0 ≤ a → a < 1 + 3 * (out.length : Int) → acctOf wd' out' a = acctOf 0 out a + (legsOf (legsS fr tt rest xs ys) a).sum := by
    intro a a0 a1
    by_cases c : legsOf (legsS fr tt rest xs ys) a = []
    · rw [c, D.nil a a0 (by omega) c]; simp
    · have := addS_sum0 _ _ _ (D.sum a a0 (by omega) c)
      rw [this]; simp
  have hwd : wd' = 0 := by
    have := hacc 0 (Int.le_refl _) (by omega)
    rw [hl0] at this
    simpa [acctOf] using this
  subst hwd
  refine ⟨out', hp, D.len, fun m hm => ?_⟩
  obtain ⟨f1, f2, f3⟩ := acct_fields 0 out m
  obtain ⟨g1, g2, g3⟩ := acct_fields 0 out' m
  obtain ⟨o0, o1, o2⟩ := D.oth m
  have hv : ∀ k : Int, (nz (sel fr tt k (amt xs m) (amt ys m))).sum = sel fr tt k (amt xs m) (amt ys m) := by intro k; unfold nz; split <;> simp_all
  have q1 := hacc (1 + 3 * (m : Int)) (by omega) (by omega)
  have q2 := hacc (2 + 3 * (m : Int)) (by omega) (by omega)
  have q3 := hacc (3 + 3 * (m : Int)) (by omega) (by omega)
  rw [hof 1 m (by omega) (by omega), hv, f1, g1] at q1
  rw [hof 2 m (by omega) (by omega), hv, show (2 : Int) + 3 * (m : Int) = 1 + 3 * (m : Int) + 1 by omega, f2, g2] at q2
  rw [hof 3 m (by omega) (by omega), hv, show (3 : Int) + 3 * (m : Int) = 1 + 3 * (m : Int) + 2 by omega, f3, g3] at q3
  exact fields46 _ _ o0 o1 o2 q1 q2 q3
def cs : List S37 → Int → List S37
  | [], _ => []
  | d :: r, am => ⟨d.f0, min am d.f1⟩ :: cs r (am - min am d.f1)
def tot (l : List S37) : Int := (l.map (·.f1)).sum
theorem tot_nonneg : ∀ (l : List S37), (∀ x ∈ l, 0 ≤ x.f1) → 0 ≤ tot l
  | [], _ => Int.le_refl _
  | x :: l, h => by
    have := tot_nonneg l (fun y hy => h y (List.mem_cons_of_mem _ hy))
    have := h x (List.mem_cons_self ..)
    unfold tot at *
    simp only [List.map_cons, List.sum_cons]
    omega
theorem chg_spec : ∀ (d : List S37) (am : Int) (out : List S37), 0 ≤ am → (∀ x ∈ d, 0 ≤ x.f1) → (am ≤ tot d → chg d am out = (out ++ cs d am, 0) ∧ tot (cs d am) = am) ∧ (tot d < am → (chg d am out).2 = 7)
  | [], am, out, h0, h => by
    simp only [chg, cs, tot, List.map_nil, List.sum_nil]
    exact ⟨fun h1 => by rw [if_neg (by omega), List.append_nil]; exact ⟨rfl, by omega⟩, fun h1 => by rw [if_pos (by omega)]⟩
  | x :: d, am, out, h0, h => by
    have hx := h x (List.mem_cons_self ..)
    have hd := fun y hy => h y (List.mem_cons_of_mem _ hy)
    have hp := tot_nonneg d hd
    obtain ⟨i1, i2⟩ := chg_spec d (am - min am x.f1) (out ++ [⟨x.f0, min am x.f1⟩]) (by omega) hd
    have e : tot (x :: d) = x.f1 + tot d := by simp [tot]
    have e2 : tot (cs (x :: d) am) = min am x.f1 + tot (cs d (am - min am x.f1)) := by simp [tot, cs]
    rw [e, e2]
    simp only [chg, cs]
    rw [if_neg (by omega)]
    refine ⟨fun h1 => ?_, fun h1 => i2 (by omega)⟩
    obtain ⟨j1, j2⟩ := i1 (by omega)
    rw [j1, j2]
    exact ⟨by simp, by omega⟩
theorem cs_dc {n : Nat} {d e : List S37} (h : DC n d e) : ∀ am : Int, 0 ≤ am → DC n d (cs d am) := by
  induction h with
  | nil => intro am _; exact .nil
  | cons x y xs ys h1 h2 h3 h4 h5 h6 h7 h ih =>
    intro am h0
    exact .cons x _ xs _ rfl h2 h3 (by show 0 ≤ min am x.f1; omega) (by show min am x.f1 ≤ x.f1; omega) h6 h7 (ih _ (by omega))
theorem dc_len {n : Nat} {d e : List S37} (h : DC n d e) : e.length = d.length := by
  induction h with
  | nil => rfl
  | cons x y xs ys h1 h2 h3 h4 h5 h6 h7 h ih => simp [ih]
theorem dc_pos {n : Nat} {d e : List S37} (h : DC n d e) : ∀ x ∈ d, 0 ≤ x.f1 ∧ x.f1 ≤ 1125899906842624 := by
  induction h with
  | nil => intro x hx; cases hx
  | cons x y xs ys h1 h2 h3 h4 h5 h6 h7 h ih =>
    intro z hz
    rcases List.mem_cons.mp hz with rfl | hz
    · omega
    · exact ih z hz
def upto (l : List S37) : Nat → Int
  | 0 => 0
  | k + 1 => upto l k + amt l (k : Int)
theorem upto_cons (x : S37) (l : List S37) (h : ∀ z ∈ l, z.f0 ≠ x.f0) (h0 : 0 ≤ x.f0) : ∀ k : Nat, upto (x :: l) k = upto l k + if x.f0 < (k : Int) then x.f1 else 0
  | 0 => by simp only [upto]; rw [if_neg (by omega)]; try rfl
  | k + 1 => by
    simp only [upto]
    rw [upto_cons x l h h0 k, amt]
    by_cases c : x.f0 = (k : Int)
    · rw [if_neg (show ¬ (x.f0 < (k : Int)) by omega), if_pos c, if_pos (by omega), ← c, amt_none l _ h]; try omega
    · rw [if_neg c]
      by_cases c2 : x.f0 < (k : Int)
      · rw [if_pos c2, if_pos (by omega)]; omega
      · rw [if_neg c2, if_neg (by omega)]; omega
theorem upto_all {n : Nat} {d e : List S37} (h : DC n d e) : upto e n = tot e := by
  have : ∀ {d e : List S37}, DC n d e → upto d n = tot d := by
    intro d e h
    induction h with
    | nil =>
      have : ∀ k, upto [] k = 0 := by intro k; induction k with
        | zero => rfl
        | succ k ih => simp only [upto, ih, amt]; try rfl
      rw [this]; rfl
    | cons x y xs ys h1 h2 h3 h4 h5 h6 h7 h ih =>
      rw [upto_cons x xs h7 h2, ih, if_pos h3]
      simp [tot]; omega
  exact this h.snd
theorem spend_spec (al : List S46) : ∀ (s : List Int) (am : Int) (out : List S37), 0 ≤ am → (∀ x ∈ s, 0 ≤ x ∧ x < (al.length : Int) ∧ 0 < (rd_T46 al x).f3 ∧ (rd_T46 al x).f3 ≤ 1125899906842624) → s.Nodup →
    ∃ e, (spend al s am out).2 = out ++ e ∧ DC al.length e e ∧ (∀ z ∈ e, z.f0 ∈ s ∧ z.f1 ≤ (rd_T46 al z.f0).f3) ∧ tot e = am - (spend al s am out).1 ∧ 0 ≤ (spend al s am out).1
  | [], am, out, h0, h, hn => ⟨[], by simp [spend], .nil, by simp, by simp [spend, tot], h0⟩
  | n :: s, am, out, h0, h, hn => by
    simp only [spend]
    by_cases c : am = 0
    · rw [if_pos c]; exact ⟨[], by simp, .nil, by simp, by simp [tot], h0⟩
    · rw [if_neg c]
      obtain ⟨a1, a2, a3, a4⟩ := h n (List.mem_cons_self ..)
      have hn2 := List.nodup_cons.mp hn
      obtain ⟨e, e1, e2, e3, e4, e5⟩ := spend_spec al s (am - min am (rd_T46 al n).f3) (out ++ [⟨n, min am (rd_T46 al n).f3⟩]) (by omega) (fun x hx => h x (List.mem_cons_of_mem _ hx)) hn2.2
      refine ⟨⟨n, min am (rd_T46 al n).f3⟩ :: e, by rw [e1]; simp, ?_, ?_, ?_, e5⟩
      · exact .cons _ _ _ _ rfl a1 a2 (by show 0 ≤ min am (rd_T46 al n).f3; omega) (Int.le_refl _) (by show min am (rd_T46 al n).f3 ≤ _; omega) (fun z hz q => hn2.1 (by have := (e3 z hz).1; rw [q] at this; exact this)) e2
      · intro z hz
        rcases List.mem_cons.mp hz with rfl | hz
        · exact ⟨List.mem_cons_self .., by show min am (rd_T46 al n).f3 ≤ (rd_T46 al n).f3; omega⟩
        · exact ⟨List.mem_cons_of_mem _ (e3 z hz).1, (e3 z hz).2⟩
      · have : tot ((⟨n, min am (rd_T46 al n).f3⟩ : S37) :: e) = min am (rd_T46 al n).f3 + tot e := by simp [tot]
        rw [this, e4]; omega
theorem amt_le (al : List S46) : ∀ (e : List S37), (∀ z ∈ e, 0 ≤ z.f1 ∧ z.f1 ≤ (rd_T46 al z.f0).f3) → (∀ m : Int, 0 ≤ (rd_T46 al m).f3 → amt e m ≤ (rd_T46 al m).f3)
  | [], _, m, hm => hm
  | x :: e, h, m, hm => by
    simp only [amt]
    by_cases c : x.f0 = m
    · rw [if_pos c, ← c]; exact (h x (List.mem_cons_self ..)).2
    · rw [if_neg c]; exact amt_le al e (fun z hz => h z (List.mem_cons_of_mem _ hz)) m hm
theorem tot_zero : ∀ (l : List S37), (∀ x ∈ l, x.f1 = 0) → tot l = 0
  | [], _ => rfl
  | x :: l, h => by
    have := tot_zero l (fun y hy => h y (List.mem_cons_of_mem _ hy))
    have := h x (List.mem_cons_self ..)
    unfold tot at *
    simp only [List.map_cons, List.sum_cons]
    omega
theorem some_pos (l : List S37) (h : tot l ≠ 0) : ∃ x ∈ l, x.f1 ≠ 0 := by
  by_cases c : ∃ x ∈ l, x.f1 ≠ 0
  · exact c
  · refine absurd (tot_zero l (fun x hx => ?_)) h
    by_cases q : x.f1 = 0
    · exact q
    · exact absurd ⟨x, hx, q⟩ c
theorem upto_one : ∀ (d : List S37) (k : Nat), upto (d.map fun x => (⟨x.f0, 1⟩ : S37)) k ≤ (k : Int)
  | d, 0 => by simp [upto]
  | d, k + 1 => by
    have h1 := upto_one d k
    have h2 : ∀ (e : List S37) (m : Int), amt (e.map fun x => (⟨x.f0, 1⟩ : S37)) m ≤ 1 := by
      intro e m
      induction e with
      | nil => simp [amt]
      | cons x e ih =>
        simp only [List.map_cons, amt]
        by_cases c : x.f0 = m
        · rw [if_pos c]; exact Int.le_refl _
        · rw [if_neg c]; exact ih
    have := h2 d (k : Int)
    simp only [upto]
    omega
theorem dc_le {n : Nat} {d e : List S37} (h : DC n d e) : d.length ≤ n := by
  have g : ∀ {d e : List S37}, DC n d e → DC n (d.map fun x => (⟨x.f0, 1⟩ : S37)) (d.map fun x => (⟨x.f0, 1⟩ : S37)) ∧ tot (d.map fun x => (⟨x.f0, 1⟩ : S37)) = (d.length : Int) := by
    intro d e h
    induction h with
    | nil => exact ⟨.nil, rfl⟩
    | cons x y xs ys h1 h2 h3 h4 h5 h6 h7 h ih =>
      refine ⟨.cons _ _ _ _ rfl h2 h3 (by show (0 : Int) ≤ 1; omega) (Int.le_refl _) (by show (1 : Int) ≤ _; omega) (fun z hz => ?_) ih.1, ?_⟩
      · obtain ⟨w, hw, rfl⟩ := List.mem_map.mp hz
        exact h7 w hw
      · have := ih.2
        unfold tot at *
        simp only [List.map_cons, List.sum_cons, List.length_cons]
        rw [this]; omega
  obtain ⟨g1, g2⟩ := g h
  have := upto_all g1
  have := upto_one d n
  omega
theorem kLien : Kinds 1 2 3 := by unfold Kinds; omega
theorem kSpend : Kinds 2 3 1 := by unfold Kinds; omega
theorem kBack : Kinds 3 1 2 := by unfold Kinds; omega
def Few (al : List S46) : Prop := ∀ m : Nat, m < al.length → (0 ≤ (rd_T46 al m).f3 ∧ (rd_T46 al m).f3 ≤ 1125899906842624) ∧ (0 ≤ (rd_T46 al m).f4 ∧ (rd_T46 al m).f4 ≤ 1125899906842624) ∧ (0 ≤ (rd_T46 al m).f5 ∧ (rd_T46 al m).f5 ≤ 1125899906842624)
theorem round_core (al : List S46) (hn : al.length ≤ 16) (hf : Few al) (d : List S37) (hd : DC al.length d d) (ha : ∀ m : Nat, m < al.length → amt d m ≤ (rd_T46 al m).f3) (h0 : 0 < tot d) (ch : Int) (c0 : 0 ≤ ch) (c1 : ch ≤ tot d) :
    mayN al.length (legsS 1 2 3 d d) (legsS 1 2 3 d d) = 0 ∧ ∃ l : List S46, postS (legsS 1 2 3 d d) (1 + 3 * al.length) 0 0 al = (0, l, 0) ∧ l.length = al.length ∧
    mayN l.length (legsS 2 3 1 d (cs d ch)) (legsS 2 3 1 d (cs d ch)) = 0 ∧ ∃ m : List S46, postS (legsS 2 3 1 d (cs d ch)) (1 + 3 * l.length) 0 0 l = (0, m, 0) ∧ m.length = al.length ∧
    (∀ k : Nat, k < al.length → (rd_T46 m k).f3 = (rd_T46 al k).f3 - amt (cs d ch) k ∧ (rd_T46 m k).f4 = (rd_T46 al k).f4 ∧ (rd_T46 m k).f5 = (rd_T46 al k).f5 + amt (cs d ch) k ∧ 0 ≤ amt (cs d ch) k ∧ amt (cs d ch) k ≤ 1125899906842624) ∧
    (ch ≠ 0 → mayN m.length (legsS 3 1 2 (cs d ch) (cs d ch)) (legsS 3 1 2 (cs d ch) (cs d ch)) = 0 ∧ postS (legsS 3 1 2 (cs d ch) (cs d ch)) (1 + 3 * m.length) 0 0 m = (0, al, 0)) := by
  have hc := cs_dc hd ch c0
  have hlen := dc_le hd
  have hclen := dc_len hc
  have hbd := fun m : Int => hc.bd m
  have hpos := some_pos d (by omega)
  have s11 : ∀ x y, sel 1 2 1 x y = -x := fun x y => by unfold sel; rw [if_pos rfl]
  have s12 : ∀ x y, sel 1 2 2 x y = y := fun x y => by unfold sel; rw [if_neg (by omega), if_pos rfl]
  have s13 : ∀ x y, sel 1 2 3 x y = x - y := fun x y => by unfold sel; rw [if_neg (by omega), if_neg (by omega)]
  have s21 : ∀ x y, sel 2 3 1 x y = x - y := fun x y => by unfold sel; rw [if_neg (by omega), if_neg (by omega)]
  have s22 : ∀ x y, sel 2 3 2 x y = -x := fun x y => by unfold sel; rw [if_pos rfl]
  have s23 : ∀ x y, sel 2 3 3 x y = y := fun x y => by unfold sel; rw [if_neg (by omega), if_pos rfl]
  have s31 : ∀ x y, sel 3 1 1 x y = y := fun x y => by unfold sel; rw [if_neg (by omega), if_pos rfl]
  have s32 : ∀ x y, sel 3 1 2 x y = x - y := fun x y => by unfold sel; rw [if_neg (by omega), if_neg (by omega)]
  have s33 : ∀ x y, sel 3 1 3 x y = -x := fun x y => by unfold sel; rw [if_pos rfl]
  obtain ⟨p1, l, p2, p3, p4⟩ := post_legs kLien hn hd (by omega) hpos (fun m hm => by
    obtain ⟨f1, f2, f3⟩ := hf m hm
    have := ha m hm
    have := hbd m
    rw [s11, s12, s13]; omega)
  refine ⟨p1, l, p2, p3, ?_⟩
  have hc2 : DC l.length d (cs d ch) := by rw [p3]; exact hc
  have p5 : ∀ k : Nat, k < al.length → (rd_T46 l k).f3 = (rd_T46 al k).f3 - amt d k ∧ (rd_T46 l k).f4 = (rd_T46 al k).f4 + amt d k ∧ (rd_T46 l k).f5 = (rd_T46 al k).f5 ∧ (rd_T46 l k).f0 = (rd_T46 al k).f0 ∧ (rd_T46 l k).f1 = (rd_T46 al k).f1 ∧ (rd_T46 l k).f2 = (rd_T46 al k).f2 := by
    intro k hk
    rw [p4 k hk, s11, s12, s13]
    exact ⟨by show _ + -_ = _; omega, rfl, by show _ + (_ - _) = _; omega, rfl, rfl, rfl⟩
  obtain ⟨q1, m, q2, q3, q4⟩ := post_legs kSpend (show l.length ≤ 16 by omega) hc2 (by omega) hpos (fun k hk => by
    obtain ⟨f1, f2, f3⟩ := hf k (by omega)
    obtain ⟨g1, g2, g3, _⟩ := p5 k (by omega)
    have := ha k (by omega)
    have := hbd k
    rw [s21, s22, s23, g1, g2, g3]; omega)
  have q5 : ∀ k : Nat, k < al.length → (rd_T46 m k).f3 = (rd_T46 al k).f3 - amt (cs d ch) k ∧ (rd_T46 m k).f4 = (rd_T46 al k).f4 ∧ (rd_T46 m k).f5 = (rd_T46 al k).f5 + amt (cs d ch) k ∧ (rd_T46 m k).f0 = (rd_T46 al k).f0 ∧ (rd_T46 m k).f1 = (rd_T46 al k).f1 ∧ (rd_T46 m k).f2 = (rd_T46 al k).f2 := by
    intro k hk
    obtain ⟨g1, g2, g3, g4, g5, g6⟩ := p5 k hk
    rw [q4 k (by omega), s21, s22, s23]
    refine ⟨?_, ?_, ?_, g4, g5, g6⟩
    · show (rd_T46 l k).f3 + _ = _; omega
    · show (rd_T46 l k).f4 + _ = _; omega
    · show (rd_T46 l k).f5 + _ = _; omega
  refine ⟨q1, m, q2, by omega, fun k hk => ?_, fun hch => ?_⟩
  · obtain ⟨g1, g2, g3, _⟩ := q5 k hk
    have := hbd k
    exact ⟨g1, g2, g3, by omega, by omega⟩
  · have hts : tot (cs d ch) = ch := ((chg_spec d ch [] c0 (fun x hx => (dc_pos hd x hx).1)).1 c1).2
    have hc3 : DC m.length (cs d ch) (cs d ch) := by rw [show m.length = al.length by omega]; exact hc.snd
    obtain ⟨r1, n, r2, r3, r4⟩ := post_legs kBack (show m.length ≤ 16 by omega) hc3 (by omega) (some_pos _ (by omega)) (fun k hk => by
      obtain ⟨f1, f2, f3⟩ := hf k (by omega)
      obtain ⟨g1, g2, g3, _⟩ := q5 k (by omega)
      have := ha k (by omega)
      have := hbd k
      rw [s31, s32, s33, g1, g2, g3]; omega)
    refine ⟨r1, ?_⟩
    have : n = al := ext46 _ _ (by omega) (fun k hk => by
      obtain ⟨g1, g2, g3, g4, g5, g6⟩ := q5 k (by omega)
      rw [r4 k (by omega), s31, s32, s33]
      refine fields46 _ _ g4 g5 g6 ?_ ?_ ?_
      · show (rd_T46 m k).f3 + _ = _; omega
      · show (rd_T46 m k).f4 + _ = _; omega
      · show (rd_T46 m k).f5 + _ = _; omega)
    rw [← this]; exact r2

theorem open_nodup (al : List S46) (f now : Int) : (openL al f now).Nodup :=
  List.Pairwise.imp (fun {a b} h e => by subst e; unfold lexU at h; omega) (openL_lex al f now)
theorem flat_nodup (al : List S46) (now : Int) : ∀ ps : List Int, ps.Nodup → (ps.flatMap (openL al · now)).Nodup
  | [], _ => by simp
  | p :: ps, h => by
    obtain ⟨h1, h2⟩ := List.nodup_cons.mp h
    rw [List.flatMap_cons]
    refine List.nodup_append.mpr ⟨open_nodup al p now, flat_nodup al now ps h2, fun a ha b hb e => ?_⟩
    subst e
    obtain ⟨q, hq, hb⟩ := List.mem_flatMap.mp hb
    have e1 := ((opn_eq _ _ _).1 ((openL_mem _ _ _ _).1 ha).2.2).1
    have e2 := ((opn_eq _ _ _).1 ((openL_mem _ _ _ _).1 hb).2.2).1
    exact h1 (by rw [← e1, e2]; exact hq)
theorem draws_spec (l : List S62) (al : List S46) (f am now : Int) (hf : Few al) (h0 : am ≠ 0) (h : (drawsS l al f am now).2 = 0) : DC al.length (drawsS l al f am now).1 (drawsS l al f am now).1 ∧ (∀ m : Nat, m < al.length → amt (drawsS l al f am now).1 m ≤ (rd_T46 al m).f3) ∧ tot (drawsS l al f am now).1 = am ∧ 0 < am := by
  unfold drawsS at h ⊢
  by_cases c1 : path l f = []
  · rw [if_pos c1] at h; exact absurd h (by decide)
  rw [if_neg c1] at h ⊢
  by_cases c2 : am < 0
  · rw [if_pos c2] at h; exact absurd h (by decide)
  rw [if_neg c2] at h ⊢
  obtain ⟨e, e1, e2, e3, e4, e5⟩ := spend_spec al ((path l f).flatMap (openL al · now)) am [] (by omega) (fun x hx => by
    obtain ⟨q, hq, hx⟩ := List.mem_flatMap.mp hx
    obtain ⟨a1, a2, a3⟩ := (openL_mem _ _ _ _).1 hx
    have a4 := ((opn_eq _ _ _).1 a3).2.2.2
    obtain ⟨b1, _⟩ := hf x.toNat (by omega)
    rw [show ((x.toNat : Nat) : Int) = x by omega] at b1
    exact ⟨a1, a2, a4, b1.2⟩) (flat_nodup al now _ (pathN_nodup l _ f))
  unfold fin at h ⊢
  by_cases c3 : (spend al ((path l f).flatMap (openL al · now)) am []).1 > 0
  · rw [if_pos c3] at h; exact absurd h (by decide)
  rw [if_neg c3]
  rw [List.nil_append] at e1
  show DC al.length (spend al ((path l f).flatMap (openL al · now)) am []).2 (spend al ((path l f).flatMap (openL al · now)) am []).2 ∧ (∀ m : Nat, m < al.length → amt (spend al ((path l f).flatMap (openL al · now)) am []).2 m ≤ _) ∧ tot (spend al ((path l f).flatMap (openL al · now)) am []).2 = am ∧ 0 < am
  rw [e1]
  exact ⟨e2, fun m hm => amt_le al e (fun z hz => ⟨(dc_pos e2 z hz).1, (e3 z hz).2⟩) m (hf m hm).1.1, by omega, by omega⟩
theorem post_ev (l1 : List S46) (h1 : l1.length ≤ 16) (l : List S64) (hl : l.length ≤ 900) (hw : ∀ x ∈ l, x.f0 ≤ 9223372036854775807) (out : List S46) (hm : mayN l1.length l l = 0) (hp : postS l (1 + 3 * l1.length) 0 0 l1 = (0, out, 0)) : Ev (fun k => ledger_Post.f k 0 l1 l) (0, out, 0) :=
  ⟨3000, fun k hk => by show ledger_Post.f k 0 l1 l = _; rw [post_eq 0 l1 (by omega) l hl hw k hk, if_pos hm, hp]⟩
theorem aw : Ev (fun k => (prebendlaw11_awake.f k).bind fun t => some t) true := Ev.bind awake11 (Ev.now _)
def upS (al : List S46) : Nat → Int
  | 0 => 0
  | k + 1 => upS al k + (rd_T46 al (k : Int)).f5
theorem legs_w {fr tt rest : Int} (hk : Kinds fr tt rest) {n : Nat} (hn : n ≤ 16) {xs ys : List S37} (h : DC n xs ys) : (legsS fr tt rest xs ys).length ≤ 900 ∧ ∀ x ∈ legsS fr tt rest xs ys, x.f0 ≤ 9223372036854775807 := by
  have h1 := legsS_len fr tt rest xs ys
  have h2 := dc_le h
  exact ⟨by omega, fun x hx => by have := (legs_in hk (by omega) h x hx).2.1; omega⟩
theorem round_l1 (ch : Int) (al : List S46) (hn : al.length ≤ 16) (hf : Few al) (c : List S37) (hc : DC al.length c c) (m : List S46) (hm : m.length = al.length)
    (hq : ∀ k : Nat, k < al.length → (rd_T46 m k).f3 = (rd_T46 al k).f3 - amt c k ∧ (rd_T46 m k).f4 = (rd_T46 al k).f4 ∧ (rd_T46 m k).f5 = (rd_T46 al k).f5 + amt c k ∧ 0 ≤ amt c k ∧ amt c k ≤ 1125899906842624) (ht : tot c = ch)
    (hb : ch ≠ 0 → mayN m.length (legsS 3 1 2 c c) (legsS 3 1 2 c c) = 0 ∧ postS (legsS 3 1 2 c c) (1 + 3 * m.length) 0 0 m = (0, al, 0)) :
    ∀ (d i : Nat), i + d = al.length → (0 ≤ upS al i ∧ upS al i ≤ 1125899906842624 * (i : Int)) → (0 ≤ upto c i ∧ upto c i ≤ 1125899906842624 * (i : Int)) → Ev (fun k => prebendlaw11_DrawRound.l1 k ch al c m (upS al i) (upS al i + upto c i) (i : Int)) true := by
  intro d
  induction d with
  | zero =>
    intro i hi h1 h2
    have hi2 : i = al.length := by omega
    have hw : wrap64 (upS al i + upto c i - upS al i) = ch := by
      rw [← ht, ← upto_all hc, ← hi2]; unfold wrap64; omega
    by_cases h0 : ch = 0
    · refine Ev.step (f := fun k => (prebendlaw11_awake.f k).bind fun t => some t) (fun k => ?_) aw
      simp only [prebendlaw11_DrawRound.l1]
      rw [if_neg (by omega), if_pos hw, if_pos h0]
    · obtain ⟨b1, b2⟩ := hb h0
      obtain ⟨w1, w2⟩ := legs_w kBack hn hc
      refine Ev.step (f := fun k => (draw_Back.f k c).bind fun t485 => ((ledger_Post.f k 0 m t485).bind fun bt488 => ((prebendlaw11_awake.f k).bind fun t493 => (if t493 = true then (if bt488.2.2 = 0 then ((prebendref09_Same.f k bt488.2.1 al).bind fun t494 => (some t494)) else (some false)) else (some false))))) (fun k => ?_) ?_
      · simp only [prebendlaw11_DrawRound.l1]
        rw [if_neg (by omega), if_pos hw, if_neg h0]
      · have m3 : Ev (fun k => draw_Back.f k c) (legsS 3 1 2 c c) := by unfold draw_Back.f; exact Ev.bind (move_f 3 1 2 c (by have := dc_le hc; omega)) (Ev.now _)
        have s : Ev (fun k => prebendref09_Same.f k al al) true := ⟨al.length + 1, fun k hk => same_eq al (by omega) k (by omega)⟩
        exact Ev.bind m3 (Ev.bind (post_ev m (by omega) _ w1 w2 al b1 b2) (Ev.bind awake11 (Ev.congr (fun k => if_pos rfl) (Ev.congr (fun k => if_pos rfl) (Ev.bind s (Ev.now _))))))
  | succ d ih =>
    intro i hi h1 h2
    obtain ⟨g1, g2, g3, g4, g5⟩ := hq i (by omega)
    obtain ⟨f1, f2, f3⟩ := hf i (by omega)
    refine Ev.step (fun k => ?_) (ih (i + 1) (by omega) (by simp only [upS]; omega) (by simp only [upto]; omega))
    simp only [prebendlaw11_DrawRound.l1]
    have c1 : (i : Int) < (al.length : Int) := by omega
    have c2 : (0 : Int) ≤ (i : Int) := by omega
    have c3 : (i : Int) < (m.length : Int) := by omega
    have e1 : wrap64 ((rd_T46 al (i : Int)).f3 + (rd_T46 al (i : Int)).f5) = (rd_T46 al (i : Int)).f3 + (rd_T46 al (i : Int)).f5 := by unfold wrap64; omega
    have e2 : wrap64 ((rd_T46 m (i : Int)).f3 + (rd_T46 m (i : Int)).f5) = (rd_T46 al (i : Int)).f3 + (rd_T46 al (i : Int)).f5 := by rw [g1, g3]; unfold wrap64; omega
    have e3 : wrap64 (upS al i + (rd_T46 al (i : Int)).f5) = upS al (i + 1) := by simp only [upS]; unfold wrap64; omega
    have e4 : wrap64 (upS al i + upto c i + (rd_T46 m (i : Int)).f5) = upS al (i + 1) + upto c (i + 1) := by simp only [upS, upto]; rw [g3]; unfold wrap64; omega
    have e5 : wrap64 ((i : Int) + 1) = ((i + 1 : Nat) : Int) := by unfold wrap64; omega
    rw [if_pos c1, if_pos c2, if_pos c3, if_pos g2.symm, if_pos (e1.trans e2.symm), e3, e4, e5]
theorem round_j1 (l : List S62) (al : List S46) (hal : al.length ≤ 16) (hf : Few al) (f am now ch : Int) (hch : ch < 9223372036854775808) : Ev (fun k => if (drawsS l al f am now).2 = 0 then prebendlaw11_DrawRound.j1 k am ch al (drawsS l al f am now).1 (am == 0) else prebendlaw11_DrawRound.j1 k am ch al (drawsS l al f am now).1 true) true := by
  have bad : ∀ d, Ev (fun k => prebendlaw11_DrawRound.j1 k am ch al d true) true := fun d => Ev.step (f := fun k => (prebendlaw11_awake.f k).bind fun t => some t) (fun k => by simp only [prebendlaw11_DrawRound.j1, if_true]) aw
  by_cases he : (drawsS l al f am now).2 = 0
  case neg => exact Ev.congr (fun k => if_neg he) (bad _)
  refine Ev.congr (fun k => if_pos he) ?_
  by_cases ha : am = 0
  · rw [show (am == 0) = true by simp [ha]]; exact bad _
  rw [show (am == 0) = false by simp [ha]]
  obtain ⟨d1, d2, d3, d4⟩ := draws_spec l al f am now hf ha he
  generalize (drawsS l al f am now).1 = d at *
  have hpos := fun x hx => (dc_pos d1 x hx).1
  have hdl := dc_le d1
  have m1 : Ev (fun k => draw_Lien.f k d) (legsS 1 2 3 d d) := by unfold draw_Lien.f; exact Ev.bind (move_f 1 2 3 d (by omega)) (Ev.now _)
  obtain ⟨lw1, lw2⟩ := legs_w kLien hal d1
  have chf := charge_f d (by omega) ch hch
  by_cases hc : 0 ≤ ch ∧ ch ≤ am
  · obtain ⟨p1, m', p2, p3, p4, m, p5, p6, p7, p8⟩ := round_core al hal hf d d1 d2 (by omega) ch hc.1 (by omega)
    have hcs := cs_dc d1 ch hc.1
    have hct := (chg_spec d ch [] hc.1 hpos).1 (by omega)
    have ec : chargeS d ch = (cs d ch, 0) := by unfold chargeS; rw [if_neg (by omega), hct.1]; rfl
    rw [ec] at chf
    obtain ⟨sw1, sw2⟩ := legs_w kSpend hal hcs
    have sp : Ev (fun k => draw_Spend.f k d (cs d ch)) (legsS 2 3 1 d (cs d ch)) := spendL_f d (cs d ch) (by omega) (fun x hx => by have := dc_pos d1 x hx; omega) (dc_len hcs).symm
    have tail := round_l1 ch al hal hf (cs d ch) hcs.snd m p6 p7 hct.2 p8 al.length 0 (by omega) (by simp [upS]) (by simp [upto])
    have e3 : ((m.length : Int) != (al.length : Int)) = false := by simp [p6]
    refine Ev.step (f := fun k => (draw_Lien.f k d).bind fun t455 => ((ledger_Post.f k 0 al t455).bind fun bt458 => (if bt458.2.2 = 0 then (prebendlaw11_DrawRound.j2 k am ch al d bt458.2.1 (bt458.1 != 0)) else (prebendlaw11_DrawRound.j2 k am ch al d bt458.2.1 true)))) (fun k => by simp only [prebendlaw11_DrawRound.j1]; rw [if_neg (by decide)]) ?_
    refine Ev.bind m1 (Ev.bind (post_ev al hal _ lw1 lw2 m' p1 p2) (Ev.congr (fun k => if_pos rfl) ?_))
    refine Ev.step (f := fun k => (draw_Charge.f k d ch).bind fun bt463 => (if bt463.2 = 0 then ((draw_Spend.f k d bt463.1).bind fun t468 => ((ledger_Post.f k 0 m' t468).bind fun bt471 => (if bt471.2.2 = 0 then (prebendlaw11_DrawRound.j3 k ch al bt463.1 bt471.2.1 ((bt471.2.1.length : Int) != (al.length : Int))) else (prebendlaw11_DrawRound.j3 k ch al bt463.1 bt471.2.1 true)))) else ((prebendlaw11_awake.f k).bind fun t467 => (if t467 = true then (if ch < 0 then (some true) else (some (decide (ch > am)))) else (some false))))) (fun k => by simp only [prebendlaw11_DrawRound.j2]; rw [if_neg (by decide)]) ?_
    refine Ev.bind chf (Ev.congr (fun k => if_pos rfl) (Ev.bind sp (Ev.bind (post_ev m' (by omega) _ sw1 sw2 m p4 p5) (Ev.congr (fun k => if_pos rfl) ?_))))
    show Ev (fun k => prebendlaw11_DrawRound.j3 k ch al (cs d ch) m ((m.length : Int) != (al.length : Int))) true
    rw [e3]
    refine Ev.step (f := fun k => prebendlaw11_DrawRound.l1 k ch al (cs d ch) m 0 0 0) (fun k => by simp only [prebendlaw11_DrawRound.j3]; rw [if_neg (by decide)]) ?_
    simpa [upS, upto] using tail
  · obtain ⟨p1, m', p2, p3, _⟩ := round_core al hal hf d d1 d2 (by omega) 0 (Int.le_refl _) (by omega)
    have ec : (chargeS d ch).2 ≠ 0 := by
      unfold chargeS
      by_cases q : ch < 0
      · rw [if_pos q]; decide
      · rw [if_neg q, (chg_spec d ch [] (by omega) hpos).2 (by omega)]; decide
    refine Ev.step (f := fun k => (draw_Lien.f k d).bind fun t455 => ((ledger_Post.f k 0 al t455).bind fun bt458 => (if bt458.2.2 = 0 then (prebendlaw11_DrawRound.j2 k am ch al d bt458.2.1 (bt458.1 != 0)) else (prebendlaw11_DrawRound.j2 k am ch al d bt458.2.1 true)))) (fun k => by simp only [prebendlaw11_DrawRound.j1]; rw [if_neg (by decide)]) ?_
    refine Ev.bind m1 (Ev.bind (post_ev al hal _ lw1 lw2 m' p1 p2) (Ev.congr (fun k => if_pos rfl) ?_))
    refine Ev.step (f := fun k => (draw_Charge.f k d ch).bind fun bt463 => (if bt463.2 = 0 then ((draw_Spend.f k d bt463.1).bind fun t468 => ((ledger_Post.f k 0 m' t468).bind fun bt471 => (if bt471.2.2 = 0 then (prebendlaw11_DrawRound.j3 k ch al bt463.1 bt471.2.1 ((bt471.2.1.length : Int) != (al.length : Int))) else (prebendlaw11_DrawRound.j3 k ch al bt463.1 bt471.2.1 true)))) else ((prebendlaw11_awake.f k).bind fun t467 => (if t467 = true then (if ch < 0 then (some true) else (some (decide (ch > am)))) else (some false))))) (fun k => by simp only [prebendlaw11_DrawRound.j2]; rw [if_neg (by decide)]) ?_
    refine Ev.bind chf (Ev.congr (fun k => if_neg ec) (Ev.bind awake11 (Ev.congr (fun k => if_pos rfl) ?_)))
    by_cases q : ch < 0
    · exact Ev.congr (fun k => if_pos q) (Ev.now _)
    · refine Ev.congr (fun k => if_neg q) ?_
      rw [decide_eq_true (show ch > am by omega)]
      exact Ev.now _
theorem round_l0 (l : List S62) (hll : l.length ≤ 20) (al : List S46) (hal : al.length ≤ 16) (f am now ch : Int) (ham : am < 9223372036854775808) (hch : ch < 9223372036854775808) : ∀ (d i : Nat), i + d = al.length → (∀ m : Nat, m < i → (0 ≤ (rd_T46 al m).f3 ∧ (rd_T46 al m).f3 ≤ 1125899906842624) ∧ (0 ≤ (rd_T46 al m).f4 ∧ (rd_T46 al m).f4 ≤ 1125899906842624) ∧ (0 ≤ (rd_T46 al m).f5 ∧ (rd_T46 al m).f5 ≤ 1125899906842624)) → Ev (fun k => prebendlaw11_DrawRound.l0 k f am now ch l al (i : Int)) true := by
  intro d
  induction d with
  | zero =>
    intro i hi h
    have hf : Few al := fun m hm => h m (by omega)
    refine Ev.step (f := fun k => (draw_Draws.f k l al f am now).bind fun bt450 => (if bt450.2 = 0 then (prebendlaw11_DrawRound.j1 k am ch al bt450.1 (am == 0)) else (prebendlaw11_DrawRound.j1 k am ch al bt450.1 true))) (fun k => by simp only [prebendlaw11_DrawRound.l0]; rw [if_neg (by omega)]) ?_
    exact Ev.bind (draws_f l al hll (by omega) f am now ham) (round_j1 l al hal hf f am now ch hch)
  | succ d ih =>
    intro i hi h
    have g1 : (i : Int) < (al.length : Int) := by omega
    have g0 : (0 : Int) ≤ (i : Int) := by omega
    have e5 : wrap64 ((i : Int) + 1) = ((i + 1 : Nat) : Int) := by unfold wrap64; omega
    have out : ∀ g : Nat → Option Bool, (∀ k, g (k + 1) = (prebendlaw11_awake.f k).bind fun t => some t) → Ev g true := fun g hg => Ev.step (f := fun k => (prebendlaw11_awake.f k).bind fun t => some t) hg aw
    by_cases c1 : (rd_T46 al (i : Int)).f3 < 0
    · exact out _ (fun k => by simp only [prebendlaw11_DrawRound.l0]; rw [if_pos g1, if_pos g0, if_pos c1])
    by_cases c2 : (rd_T46 al (i : Int)).f4 < 0
    · exact out _ (fun k => by simp only [prebendlaw11_DrawRound.l0]; rw [if_pos g1, if_pos g0, if_neg c1, if_pos c2])
    by_cases c3 : (rd_T46 al (i : Int)).f5 < 0
    · exact out _ (fun k => by simp only [prebendlaw11_DrawRound.l0]; rw [if_pos g1, if_pos g0, if_neg c1, if_neg c2, if_pos c3])
    by_cases c4 : (rd_T46 al (i : Int)).f3 > 1125899906842624
    · exact out _ (fun k => by simp only [prebendlaw11_DrawRound.l0]; rw [if_pos g1, if_pos g0, if_neg c1, if_neg c2, if_neg c3, if_pos c4])
    by_cases c5 : (rd_T46 al (i : Int)).f4 > 1125899906842624
    · exact out _ (fun k => by simp only [prebendlaw11_DrawRound.l0]; rw [if_pos g1, if_pos g0, if_neg c1, if_neg c2, if_neg c3, if_neg c4, if_pos c5])
    by_cases c6 : (rd_T46 al (i : Int)).f5 > 1125899906842624
    · exact out _ (fun k => by simp only [prebendlaw11_DrawRound.l0]; rw [if_pos g1, if_pos g0, if_neg c1, if_neg c2, if_neg c3, if_neg c4, if_neg c5, if_pos c6])
    refine Ev.step (fun k => ?_) (ih (i + 1) (by omega) (fun m hm => ?_))
    · simp only [prebendlaw11_DrawRound.l0]
      rw [if_pos g1, if_pos g0, if_neg c1, if_neg c2, if_neg c3, if_neg c4, if_neg c5, if_neg c6, e5]
    · by_cases q : m = i
      · subst q; exact ⟨by omega, by omega, by omega⟩
      · exact h m (by omega)
theorem DrawRound : prebendlaw11_DrawRound.Pure := by
  intro l al f am now ch _ _ _ ham _ hch
  have h1 : am < 9223372036854775808 := by have := i64_hi am ham; omega
  have h2 : ch < 9223372036854775808 := by have := i64_hi ch hch; omega
  refine Ev.rounds ?_
  unfold prebendlaw11_DrawRound.f
  rw [few_eq]
  simp only [Option.bind_some]
  exact round_l0 (l.take 12) (by rw [List.length_take]; omega) (al.take 16) (by rw [List.length_take]; omega) f am now ch h1 h2 (al.take 16).length 0 (by omega) (fun m hm => absurd hm (by omega))

end Go.Proofs.Ytlccomoiajnkmaa.Pure
end
section
namespace Go.Proofs.Ytlccomoiajnkmaa.Rd
open Go.ChangeShapes Go.WideShapes Go.Deep Go.RowKit Go.Proofs.YtlccomoiajnkmaaW.PrintWords
set_option linter.unusedVariables false
def Rds {α : Type} (P : Program) (d : Kd α) (T : TypeId) (good : α → Prop) : Prop :=
  ∀ (H : Type) (enc : TypeId × Value → H) (w : World) (base : Nat) (spare : Nat → Bool) (held : Bool) (n : Nat) (cs : List Value) (y : DataW H × List MemPlace),
    DataW.trod enc P w base spare held n T cs = some y → ∃ x, d.K w x cs ∧ good x
theorem rds_int {P : Program} {T : TypeId} {k : IntKind} (ht : P.underlying T = some (.int k)) : Rds P (Kd.int k) T (fun x => (Lit.int k x).wf = true) := by
  intro H enc w base spare held n cs y h
  obtain ⟨m, rfl, _, hw⟩ := DataW.trod_int ht h
  exact ⟨m, rfl, hw⟩
theorem rds_string {P : Program} {T : TypeId} (ht : P.underlying T = some .string) : Rds P Kd.string T (fun s => s.size ≤ maxLen) := by
  intro H enc w base spare held n cs y h
  obtain ⟨m, rfl, _, hw⟩ := DataW.trod_string ht h
  exact ⟨m, rfl, hw⟩
theorem rds_slice {α : Type} {P : Program} {d : Kd α} {T e : TypeId} {good : α → Prop} (ht : P.underlying T = some (.slice e)) (hc : P.cellsOf e = d.sz) (hr : Rds P d e good) :
    Rds P (Kd.slice e d) T (fun xs => xs.length ≤ maxLen ∧ ∀ x ∈ xs, good x) := by
  intro H enc w base spare held n cs y h
  rcases open_slice ht h with ⟨rfl, _⟩ | ⟨a, len, cap, m, n', D, Pl, rfl, hb, hl, hm, hmm, _, hi⟩
  · exact ⟨[], ⟨none, 0, rfl, Nat.le_refl _, rfl, by simp, fun h0 => absurd h0 (by simp)⟩, by simp, by simp⟩
  · have hlm : len ≤ m := by rw [hmm]; split <;> omega
    have step : ∀ l, l ≤ len → ∃ xs : List α, xs.length = l ∧ (∀ x ∈ xs, good x) ∧ ∀ j p, xs[j]? = some p → ∃ c, w.cells? base (a.add (j * d.sz)) d.sz = some c ∧ d.K w p c := by
      intro l
      induction l with
      | zero => intro _; exact ⟨[], rfl, by simp, by simp⟩
      | succ l ih =>
        intro hl1
        obtain ⟨xs, hx, hg, hj⟩ := ih (by omega)
        obtain ⟨c, h1, h2⟩ := hi l (by omega)
        obtain ⟨x, k, g⟩ := hr _ _ _ _ _ _ _ _ _ h2
        rw [hc] at h1
        refine ⟨xs ++ [x], by simp [hx], ?_, ?_⟩
        · intro z hz
          rcases List.mem_append.1 hz with hz | hz
          · exact hg z hz
          · rw [List.mem_singleton.1 hz]; exact g
        · intro j p hp
          rcases Nat.lt_or_ge j xs.length with hlt | hge
          · rw [List.getElem?_append_left hlt] at hp; exact hj j p hp
          · have hjl : j = l := by
              have := (List.getElem?_eq_some_iff.1 hp).1
              rw [List.length_append, List.length_singleton] at this
              omega
            subst hjl
            rw [List.getElem?_append_right hge, hx, Nat.sub_self] at hp
            simp at hp
            subst hp
            exact ⟨c, h1, k⟩
    obtain ⟨xs, hx, hg, hj⟩ := step len (Nat.le_refl _)
    refine ⟨xs, ⟨some a, cap, by rw [hx], by omega, rfl, by rw [hx]; unfold maxLen at hm; omega, fun _ => ⟨a, rfl, fun j p hp => ?_⟩⟩, by rw [hx]; omega, hg⟩
    obtain ⟨c, h1, k⟩ := hj j p hp
    refine ⟨c, d.K_len k, k, fun i u hu => ?_⟩
    obtain ⟨_, hcl, hat⟩ := World.cells?_some h1
    have hil : i < d.sz := by have := (List.getElem?_eq_some_iff.1 hu).1; omega
    rw [← Go.Deep.add_add, hat i hil, hu]
theorem pair_mk {α β : Type} {a : Kd α} {b : Kd β} {w : World} {x : α} {y : β} {cs : List Value} {o : Nat} (h1 : a.K w x ((cs.drop o).take a.sz)) (h2 : b.K w y (cs.drop (o + a.sz))) : (Kd.pair a b).K w (x, y) (cs.drop o) :=
  ⟨_, _, by rw [← List.drop_drop]; exact (List.take_append_drop a.sz (cs.drop o)).symm, h1, h2⟩
theorem last_mk {α : Type} {a : Kd α} {w : World} {x : α} {cs : List Value} {o : Nat} (hl : cs.length = o + a.sz) (h1 : a.K w x ((cs.drop o).take a.sz)) : a.K w x (cs.drop o) := by
  rwa [List.take_of_length_le (by rw [List.length_drop]; omega)] at h1
theorem field {H : Type} {enc : TypeId × Value → H} {P : Program} {w : World} {base : Nat} {spare : Nat → Bool} {held : Bool} {n : Nat} {cs : List Value} {fs : Array Field} {xs : List (DataW H × List MemPlace)} (hx : xs.length = fs.size)
    (hf : ∀ (i : Nat) (f : Field), fs[i]? = some f → DataW.trod enc P w base spare held n f.type ((cs.drop f.offset).take (P.cellsOf f.type)) = xs[i]?)
    (i : Nat) (f : Field) (hi : fs[i]? = some f) {α : Type} {d : Kd α} {good : α → Prop} {o T : Nat} (ho : f.offset = o) (hT : f.type = T) (hc : P.cellsOf T = d.sz) (hr : Rds P d T good) : ∃ x, d.K w x ((cs.drop o).take d.sz) ∧ good x := by
  have h := hf i f hi
  have hlt : i < xs.length := by rw [hx]; exact (Array.getElem?_eq_some_iff.1 hi).1
  rw [List.getElem?_eq_getElem hlt, ho, hT, hc] at h
  exact hr _ _ _ _ _ _ _ _ _ h
end Go.Proofs.Ytlccomoiajnkmaa.Rd
end
section
namespace Go.Proofs.Ytlccomoiajnkmaa.drawRound
open Go.ChangeShapes Go.WideShapes Go.ChangeAt Go.RowKit Go.Proofs.YtlccomoiajnkmaaW.PrintWords Go.Proofs.Ytlccomoiajnkmaa.PAll
open Go.ChangeMaps (open_string shut_string)
set_option linter.unusedVariables false
theorem own : ownKnob Try.prog.godebug = none := by kernel_rfl
theorem laidOut : laidOutB Try.prog = true := by kernel_rfl
theorem rds62 : Rd.Rds Try.prog k62 62 g62 := by
  intro H enc w base spare held n cs y h
  obtain ⟨xs, m, _, _, hlen, hxl, hf⟩ := DataW.trod_struct Try.underlying62 h
  have hl : cs.length = 3 := hlen.trans (by kernel_rfl)
  obtain ⟨x0, h0, g0_⟩ := Rd.field hxl hf 0 _ rfl (d := Kd.string) (good := (fun x => x.size ≤ maxLen)) (o := 0) (T := 9) rfl rfl (by kernel_rfl) (Rd.rds_string Try.underlying9)
  obtain ⟨x1, h1, g1_⟩ := Rd.field hxl hf 1 _ rfl (d := (Kd.int .i64)) (good := (fun x => (Lit.int .i64 x).wf = true)) (o := 1) (T := 3) rfl rfl (by kernel_rfl) (Rd.rds_int Try.underlying3)
  obtain ⟨x2, h2, g2_⟩ := Rd.field hxl hf 2 _ rfl (d := (Kd.int .i64)) (good := (fun x => (Lit.int .i64 x).wf = true)) (o := 2) (T := 3) rfl rfl (by kernel_rfl) (Rd.rds_int Try.underlying3)
  have hK := (Rd.pair_mk (o := 0) h0 (Rd.pair_mk (o := 1) h1 (Rd.last_mk (a := (Kd.int .i64)) (o := 2) hl h2)))
  exact ⟨⟨x0, x1, x2⟩, (by rw [List.drop_zero] at hK; exact hK), ⟨g0_, g1_, g2_⟩⟩
theorem rds46 : Rd.Rds Try.prog k46 46 g46 := by
  intro H enc w base spare held n cs y h
  obtain ⟨xs, m, _, _, hlen, hxl, hf⟩ := DataW.trod_struct Try.underlying46 h
  have hl : cs.length = 6 := hlen.trans (by kernel_rfl)
  obtain ⟨x0, h0, g0_⟩ := Rd.field hxl hf 0 _ rfl (d := (Kd.int .i64)) (good := (fun x => (Lit.int .i64 x).wf = true)) (o := 0) (T := 3) rfl rfl (by kernel_rfl) (Rd.rds_int Try.underlying3)
  obtain ⟨x1, h1, g1_⟩ := Rd.field hxl hf 1 _ rfl (d := (Kd.int .i64)) (good := (fun x => (Lit.int .i64 x).wf = true)) (o := 1) (T := 3) rfl rfl (by kernel_rfl) (Rd.rds_int Try.underlying3)
  obtain ⟨x2, h2, g2_⟩ := Rd.field hxl hf 2 _ rfl (d := (Kd.int .i64)) (good := (fun x => (Lit.int .i64 x).wf = true)) (o := 2) (T := 3) rfl rfl (by kernel_rfl) (Rd.rds_int Try.underlying3)
  obtain ⟨x3, h3, g3_⟩ := Rd.field hxl hf 3 _ rfl (d := (Kd.int .i64)) (good := (fun x => (Lit.int .i64 x).wf = true)) (o := 3) (T := 3) rfl rfl (by kernel_rfl) (Rd.rds_int Try.underlying3)
  obtain ⟨x4, h4, g4_⟩ := Rd.field hxl hf 4 _ rfl (d := (Kd.int .i64)) (good := (fun x => (Lit.int .i64 x).wf = true)) (o := 4) (T := 3) rfl rfl (by kernel_rfl) (Rd.rds_int Try.underlying3)
  obtain ⟨x5, h5, g5_⟩ := Rd.field hxl hf 5 _ rfl (d := (Kd.int .i64)) (good := (fun x => (Lit.int .i64 x).wf = true)) (o := 5) (T := 3) rfl rfl (by kernel_rfl) (Rd.rds_int Try.underlying3)
  have hK := (Rd.pair_mk (o := 0) h0 (Rd.pair_mk (o := 1) h1 (Rd.pair_mk (o := 2) h2 (Rd.pair_mk (o := 3) h3 (Rd.pair_mk (o := 4) h4 (Rd.last_mk (a := (Kd.int .i64)) (o := 5) hl h5))))))
  exact ⟨⟨x0, x1, x2, x3, x4, x5⟩, (by rw [List.drop_zero] at hK; exact hK), ⟨g0_, g1_, g2_, g3_, g4_, g5_⟩⟩
set_option maxRecDepth 100000 in
theorem lifted (os : Os) (started : os.Started) (H : Type) (enc : TypeId × Value → H) :
    ReturnsInHanded {} Try.checked os 7 .any (Rows.drawRoundSpec.pre6 enc Try.prog Try.f7 Rows.drawRoundRow.domain false) (Rows.drawRoundSpec.post enc Try.prog Try.f7 false true false false) := by
  refine returnsInHanded_of_change_sized (C := Try.checked) own started (by kernel_rfl) Try.func7
    (ChangeSpec.witness6 (enc := enc) (C := Try.checked) false ⟨#[], #[.slice none 0 0, .slice none 0 0, .int .i64 0, .int .i64 0, .int .i64 0, .int .i64 0], []⟩ 8 (by kernel_rfl) (by kernel_rfl) (by kernel_rfl) (by kernel_rfl)) ?_
  intro W base args ds gs before hval0 hW hcnd hsz0 _
  have hval : ∀ (j : Nat) t v, Try.f7.params[j]? = some t → args[j]? = some v → Value.okWide Try.prog W .any base t v := hval0
  have hW' := hW
  obtain ⟨p, q, hA0, hV, rfl, hfz, hnd⟩ := hW
  have hA : DataW.TrodAll enc Try.prog W 0 (fun _ => true) true Try.f7.params.toList args.toList ds p := hA0
  rw [Try.params7] at hA hval
  obtain ⟨v0, vs0, d0, ds0, p0, q0, hargs, rfl, rfl, h0, r0⟩ := trodAll_cons hA
  obtain ⟨v1, vs1, d1, ds1, p1, q1, rfl, rfl, rfl, h1, r1⟩ := trodAll_cons r0
  obtain ⟨v2, vs2, d2, ds2, p2, q2, rfl, rfl, rfl, h2, r2⟩ := trodAll_cons r1
  obtain ⟨v3, vs3, d3, ds3, p3, q3, rfl, rfl, rfl, h3, r3⟩ := trodAll_cons r2
  obtain ⟨v4, vs4, d4, ds4, p4, q4, rfl, rfl, rfl, h4, r4⟩ := trodAll_cons r3
  obtain ⟨v5, vs5, d5, ds5, p5, q5, rfl, rfl, rfl, h5, r5⟩ := trodAll_cons r4
  obtain ⟨rfl, rfl, rfl⟩ := trodAll_nil r5
  obtain rfl : args = #[v0, v1, v2, v3, v4, v5] := by cases args; simp_all
  obtain ⟨rfl, rfl⟩ := trodVars_none hV
  obtain ⟨a0, len0, cap0, rfl⟩ := okWide_slice Try.underlying22 (hval 0 22 v0 rfl rfl)
  have k0 := h0
  have lt0 : ∀ x ∈ p0, x.block < W.heap.size := by obtain ⟨m, hm⟩ := k0; exact DataW.trod_lt m _ _ _ hm
  obtain ⟨l0, ⟨A0, c0, he0, hl0, hC0⟩, g0_⟩ : ∃ xs, ((Kd.slice 62 k62)).K W xs [.slice a0 len0 cap0] ∧ (fun x => (x.length ≤ maxLen ∧ ∀ y ∈ x, g62 y)) xs := by
    obtain ⟨fuel, hf⟩ := h0
    exact (Rd.rds_slice (P := Try.prog) (T := 22) Try.underlying22 (by kernel_rfl) rds62) _ _ _ _ _ _ _ _ _ hf
  obtain ⟨rfl, rfl, rfl⟩ : a0 = A0 ∧ len0 = l0.length ∧ cap0 = c0 := by simpa using he0
  obtain ⟨a1, len1, cap1, rfl⟩ := okWide_slice Try.underlying23 (hval 1 23 v1 rfl rfl)
  have k1 := h1
  have lt1 : ∀ x ∈ p1, x.block < W.heap.size := by obtain ⟨m, hm⟩ := k1; exact DataW.trod_lt m _ _ _ hm
  obtain ⟨l1, ⟨A1, c1, he1, hl1, hC1⟩, g1_⟩ : ∃ xs, ((Kd.slice 46 k46)).K W xs [.slice a1 len1 cap1] ∧ (fun x => (x.length ≤ maxLen ∧ ∀ y ∈ x, g46 y)) xs := by
    obtain ⟨fuel, hf⟩ := h1
    exact (Rd.rds_slice (P := Try.prog) (T := 23) Try.underlying23 (by kernel_rfl) rds46) _ _ _ _ _ _ _ _ _ hf
  obtain ⟨rfl, rfl, rfl⟩ : a1 = A1 ∧ len1 = l1.length ∧ cap1 = c1 := by simpa using he1
  obtain ⟨a2, rfl, rfl, rfl, w2⟩ := open_int Try.underlying3 (hval 2 3 v2 rfl rfl) h2
  obtain ⟨a3, rfl, rfl, rfl, w3⟩ := open_int Try.underlying3 (hval 3 3 v3 rfl rfl) h3
  obtain ⟨a4, rfl, rfl, rfl, w4⟩ := open_int Try.underlying3 (hval 4 3 v4 rfl rfl) h4
  obtain ⟨a5, rfl, rfl, rfl, w5⟩ := open_int Try.underlying3 (hval 5 3 v5 rfl rfl) h5
  clear hA0 hval0 hsz0
  refine (PAll.prebendlaw11_DrawRound.walk Pure.DrawRound _ _ l0 _ _ l1 a2 a3 a4 a5 W hC0 hl0 hC1 hl1 g0_ g1_ w2 w3 w4 w5).mono fun e W' ⟨he, bel⟩ => ?_
  subst he
  exact ⟨_, rfl, _, _, _, [], _, [], hW', trodAll_mk1 (shut_bool Try.underlying4 _), (trodAll_cons_mk (Below.trod laidOut (by kernel_rfl) (of_decide_eq_true (by kernel_rfl)) k0 bel lt0) (trodAll_cons_mk (Below.trod laidOut (by kernel_rfl) (of_decide_eq_true (by kernel_rfl)) k1 bel lt1) (trodAll_cons_mk (shut_int Try.underlying3 w2) (trodAll_cons_mk (shut_int Try.underlying3 w3) (trodAll_cons_mk (shut_int Try.underlying3 w4) (trodAll_cons_mk (shut_int Try.underlying3 w5) trodAll_mk0)))))), rfl, bel.frame _, fun h => by cases h⟩
theorem over : Rows.drawRoundRow.holds Try.pinned (OpenSpec.ofChange Rows.drawRoundSpec) :=
  OpenClaim.holds_of_wide 7 Try.f7 rfl rfl rfl rfl rfl rfl rfl ⟨rfl, rfl, rfl, rfl, rfl⟩ rfl rfl rfl rfl rfl (by kernel_rfl) Try.func7 (by kernel_rfl)
    (of_decide_eq_true (by kernel_rfl)) (by unfold Func.isWrapper; first | (rw [if_pos (by decide +kernel)]; kernel_rfl) | (rw [if_neg (by decide +kernel)]; exact ⟨rfl, rfl⟩))
    (fun os started H enc _ => lifted os started H enc)
theorem proved : Rows.DrawRoundSaid := over
#print axioms proved
end Go.Proofs.Ytlccomoiajnkmaa.drawRound
namespace Go.Proofs.Ytlccomoiajnkmaa
/-- The row, under a short name, for the claim. -/
theorem drawRound_holds : Rows.DrawRoundSaid := drawRound.proved
end Go.Proofs.Ytlccomoiajnkmaa
end
