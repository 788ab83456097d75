/- What is drawn is just the amount, of allocations that are open, of the fund or of those above it, none twice, none more than it has, a later one only when the earlier ones are empty: for all funds, allocations and numbers that a call may be handed; no conditions. -/
import Derived.Test.YtlccomoiajnkmaaBDrawTakes3
import Derived.Deep.Slices
import Derived.Deep.Fields
import Derived.ChangeSame
import Derived.ChangeArms
import Derived.OpenShut
import Derived.Test.YtlccomoiajnkmaaRows
import Derived.ProofKit
import Derived.ShutString
import Derived.ChangeOld
import Derived.Carry
section
set_option linter.unusedVariables false
set_option linter.unusedSimpArgs false
namespace Go.Proofs.Ytlccomoiajnkmaa.Pure
open Go Go.RowKit Go.Proofs.Ytlccomoiajnkmaa.PAll Go.Proofs.YtlccomoiajnkmaaW.PrintWords Go.Proofs.YtlccomoiajnkmaaW.PrintLast

def fitB (n : Int) : Bool := decide (-1152921504606846976 ≤ n) && decide (n ≤ 1152921504606846976)
theorem fitB_iff (n : Int) : fitB n = true ↔ -1152921504606846976 ≤ n ∧ n ≤ 1152921504606846976 := by simp [fitB]
theorem rd_drop (l : List Int) (i : Nat) (h : i < l.length) : l.drop i = rd l (i : Int) :: l.drop (i + 1) := by
  rw [List.drop_eq_getElem_cons h]; simp [rd, h]
theorem wrap_id (n : Int) (h : -9223372036854775808 ≤ n) (h2 : n < 9223372036854775808) : wrap64 n = n := by unfold wrap64; omega

section SortA
variable {α : Type}
structure TP (le : α → α → Bool) : Prop where
  total : ∀ a b, le a b = true ∨ le b a = true
  trans : ∀ {a b c}, le a b = true → le b c = true → le a c = true
def eqv (le : α → α → Bool) (a b : α) : Bool := le a b && le b a
def SEq (le : α → α → Bool) (xs ys : List α) : Prop := ∀ c, xs.filter (eqv le c) = ys.filter (eqv le c)
abbrev Srt (le : α → α → Bool) (xs : List α) : Prop := xs.Pairwise (fun a b => le a b = true)
variable {le : α → α → Bool}
theorem TP.refl (h : TP le) (a : α) : le a a = true := by rcases h.total a a with h | h <;> exact h
theorem TP.of_not (h : TP le) {a b : α} (hn : le a b = false) : le b a = true := by
  rcases h.total a b with h1 | h1
  · rw [hn] at h1; cases h1
  · exact h1
theorem SEq.refl (xs : List α) : SEq le xs xs := fun _ => rfl
theorem SEq.symm {xs ys : List α} (h : SEq le xs ys) : SEq le ys xs := fun c => (h c).symm
theorem SEq.trans {xs ys zs : List α} (h : SEq le xs ys) (h2 : SEq le ys zs) : SEq le xs zs := fun c => (h c).trans (h2 c)
theorem SEq.append {xs ys xs' ys' : List α} (h : SEq le xs ys) (h2 : SEq le xs' ys') : SEq le (xs ++ xs') (ys ++ ys') := fun c => by
  rw [List.filter_append, List.filter_append, h c, h2 c]
theorem SEq.cons (x : α) {xs ys : List α} (h : SEq le xs ys) : SEq le (x :: xs) (x :: ys) := fun c => by
  rw [List.filter_cons, List.filter_cons, h c]
theorem SEq.mem (ht : TP le) {xs ys : List α} (h : SEq le xs ys) {x : α} (hx : x ∈ xs) : x ∈ ys := by
  have h1 : x ∈ xs.filter (eqv le x) := List.mem_filter.2 ⟨hx, by simp [eqv, ht.refl]⟩
  rw [h x] at h1
  exact (List.mem_filter.1 h1).1
/-- Two neighbouring parts change their places, where each of the second one is below each of the first one. -/
theorem SEq.swap (ht : TP le) {A B : List α} (h : ∀ a ∈ A, ∀ b ∈ B, le a b = false) : SEq le (A ++ B) (B ++ A) := fun c => by
  rw [List.filter_append, List.filter_append]
  by_cases hA : A.filter (eqv le c) = []
  · rw [hA]; simp
  · have hB : B.filter (eqv le c) = [] := by
      rw [List.filter_eq_nil_iff]
      intro b hb hcb
      obtain ⟨a, ha⟩ := List.exists_mem_of_ne_nil _ hA
      obtain ⟨ha, hca⟩ := List.mem_filter.1 ha
      simp only [eqv, Bool.and_eq_true] at hca hcb
      have := h a ha b hb
      rw [ht.trans hca.2 hcb.1] at this
      cases this
    rw [hB]; simp
theorem SEq.uniq (ht : TP le) : ∀ {xs ys : List α}, Srt le xs → Srt le ys → SEq le xs ys → xs = ys
  | [], [], _, _, _ => rfl
  | [], y :: ys, _, _, h => by have := SEq.mem ht (SEq.symm h) (List.mem_cons_self (a := y)); simp at this
  | x :: xs, [], _, _, h => by have := SEq.mem ht h (List.mem_cons_self (a := x)); simp at this
  | x :: xs, y :: ys, hx, hy, h => by
    have hx' := List.pairwise_cons.1 hx
    have hy' := List.pairwise_cons.1 hy
    have h1 : le y x = true := by
      rcases List.mem_cons.1 (SEq.mem ht h (List.mem_cons_self (a := x))) with e | e
      · rw [e]; exact ht.refl _
      · exact hy'.1 _ e
    have h2 : le x y = true := by
      rcases List.mem_cons.1 (SEq.mem ht (SEq.symm h) (List.mem_cons_self (a := y))) with e | e
      · rw [e]; exact ht.refl _
      · exact hx'.1 _ e
    have h3 := h x
    rw [List.filter_cons, List.filter_cons, if_pos (by simp [eqv, ht.refl]), if_pos (by simp [eqv, h1, h2])] at h3
    have h4 : x = y := by injection h3
    subst h4
    rw [SEq.uniq ht hx'.2 hy'.2 (fun c => by
      have h5 := h c
      rw [List.filter_cons, List.filter_cons] at h5
      split at h5
      · injection h5
      · exact h5)]
def ins (le : α → α → Bool) (x : α) : List α → List α
  | [] => [x]
  | y :: ys => if le x y = true then x :: y :: ys else y :: ins le x ys
def isort (le : α → α → Bool) : List α → List α
  | [] => []
  | x :: xs => ins le x (isort le xs)
theorem ins_perm (x : α) : ∀ ys : List α, (ins le x ys).Perm (x :: ys)
  | [] => .refl _
  | y :: ys => by
    unfold ins
    split
    · exact .refl _
    · exact ((ins_perm x ys).cons y).trans (.swap x y ys)
theorem isort_perm : ∀ xs : List α, (isort le xs).Perm xs
  | [] => .refl _
  | x :: xs => (ins_perm x _).trans ((isort_perm xs).cons x)
theorem ins_srt (ht : TP le) (x : α) : ∀ {ys : List α}, Srt le ys → Srt le (ins le x ys)
  | [], _ => by simp [ins]
  | y :: ys, h => by
    have h' := List.pairwise_cons.1 h
    unfold ins
    split
    · next hxy => exact List.pairwise_cons.2 ⟨fun z hz => by
        rcases List.mem_cons.1 hz with rfl | hz
        · exact hxy
        · exact ht.trans hxy (h'.1 z hz), h⟩
    · next hxy => exact List.pairwise_cons.2 ⟨fun z hz => by
        rcases List.mem_cons.1 ((ins_perm x ys).mem_iff.1 hz) with rfl | hz
        · exact ht.of_not (by simpa using hxy)
        · exact h'.1 z hz, ins_srt ht x h'.2⟩
theorem isort_srt (ht : TP le) : ∀ xs : List α, Srt le (isort le xs)
  | [] => .nil
  | x :: xs => ins_srt ht x (isort_srt ht xs)
theorem ins_seq (ht : TP le) (x : α) : ∀ ys : List α, SEq le (ins le x ys) (x :: ys)
  | [] => .refl _
  | y :: ys => by
    unfold ins
    split
    · exact .refl _
    · next hxy =>
      refine ((ins_seq ht x ys).cons y).trans ?_
      have := SEq.swap (le := le) ht (A := [x]) (B := [y]) (fun a ha b hb => by simp at ha hb; subst ha; subst hb; simpa using hxy)
      exact (SEq.append this (SEq.refl ys)).symm
theorem isort_seq (ht : TP le) : ∀ xs : List α, SEq le (isort le xs) xs
  | [] => .refl _
  | x :: xs => (ins_seq ht x _).trans ((isort_seq ht xs).cons x)
theorem isort_eq (ht : TP le) {xs ys : List α} (h : Srt le ys) (h2 : SEq le ys xs) : ys = isort le xs :=
  SEq.uniq ht h (isort_srt ht xs) (h2.trans (isort_seq ht xs).symm)
end SortA
section SortB
variable {α : Type} {d : α} {le : α → α → Bool} {cmp : α → α → Option Int}
theorem wr_ (n : Int) (h : -9223372036854775808 ≤ n) (h2 : n < 9223372036854775808) : wrap64 n = n := by unfold wrap64; omega
theorem half_ (x y : Int) (hx : 0 ≤ x) (hy : 0 ≤ y) (h : x + y < 9223372036854775808) : wrap64 ((IntKind.u64.wrap (wrap64 (x + y))) / 2) = (x + y) / 2 := by
  rw [wr_ (x + y) (by omega) h]
  have : IntKind.u64.wrap (x + y) = x + y := by
    show (x + y) % 18446744073709551616 = x + y
    omega
  rw [this, wr_ _ (by omega) (by omega)]
theorem gt_ (p q : List α) (x : α) (i : Int) (hi : i = p.length) : (p ++ x :: q).getD i.toNat d = x := by
  subst hi; simp [List.getD_eq_getElem?_getD]
theorem st_ (p q : List α) (x v : α) (i : Int) (hi : i = p.length) : (p ++ x :: q).set i.toNat v = p ++ v :: q := by
  subst hi; simp
theorem swp_ (p m q : List α) (x y : α) (i j : Int) (hi : i = p.length) (hj : j = p.length + 1 + m.length) : ((p ++ x :: (m ++ y :: q)).set i.toNat y).set j.toNat x = p ++ y :: (m ++ x :: q) := by
  rw [st_ p _ x y i hi]
  have := st_ (p ++ y :: m) q y x j (by simp; omega)
  simpa using this
theorem swp'_ (p m q : List α) (x y : α) (i j : Int) (hi : i = p.length) (hj : j = p.length + 1 + m.length) : ((p ++ x :: (m ++ y :: q)).set j.toNat x).set i.toNat y = p ++ y :: (m ++ x :: q) := by
  have := st_ (p ++ x :: m) q y x j (by simp; omega)
  rw [show p ++ x :: (m ++ y :: q) = (p ++ x :: m) ++ y :: q by simp, this, show (p ++ x :: m) ++ x :: q = p ++ x :: (m ++ x :: q) by simp, st_ p _ x y i hi]
theorem isort_congr (ht : TP le) {xs ys : List α} (h : SEq le xs ys) : isort le xs = isort le ys :=
  isort_eq ht (isort_srt ht xs) ((isort_seq ht xs).trans h)
theorem srt_isort (ht : TP le) {xs : List α} (h : Srt le xs) : isort le xs = xs := (isort_eq ht h (SEq.refl _)).symm
theorem isort_len (xs : List α) : (isort le xs).length = xs.length := (isort_perm xs).length_eq
theorem eq_of_len0 {xs : List α} (h : xs.length = 0) : xs = [] := List.length_eq_zero_iff.1 h

/-- The comparing function: below 0 just where the first one is below the second one. -/
def Cmp (le : α → α → Bool) (cmp : α → α → Option Int) : Prop := ∀ x y, ∃ t, cmp x y = some t ∧ (t < 0 ↔ le y x = false)

/-! the insertion sort -/
structure InsF (d : α) (cmp : α → α → Option Int) (l0 : Nat → List α → Int → Int → Int → Option (List α)) (l1 : Nat → List α → Int → Int → Int → Int → Option (List α)) : Prop where
  e0 : ∀ k xs a b i, l0 (k + 1) xs a b i = if i < b then l1 k xs a b i i else some xs
  e1 : ∀ k xs a b i j, l1 (k + 1) xs a b i j = if j > a then (if 0 ≤ j then (if j < (xs.length : Int) then (if 0 ≤ (wrap64 (j - 1)) then (if (wrap64 (j - 1)) < (xs.length : Int) then
      ((cmp (xs.getD j.toNat d) (xs.getD (wrap64 (j - 1)).toNat d)).bind fun t => (if t < 0 then (l1 k ((xs.set j.toNat (xs.getD (wrap64 (j - 1)).toNat d)).set (wrap64 (j - 1)).toNat (xs.getD j.toNat d)) a b i (wrap64 (j - 1))) else (l0 k xs a b (wrap64 (i + 1))))) else none) else none) else none) else none) else (l0 k xs a b (wrap64 (i + 1)))
variable {l0 : Nat → List α → Int → Int → Int → Option (List α)} {l1 : Nat → List α → Int → Int → Int → Int → Option (List α)}
theorem ins_l1 (ht : TP le) (hcmp : Cmp le cmp) (hF : InsF d cmp l0 l1) {pre post r : List α} {a b i : Int} (ha : a = pre.length) (hi0 : 0 ≤ i) (hi1 : i < 1099511627776) (x : α) : ∀ (n : Nat) (S1 S2 : List α) (j : Int), S1.length = n → j = a + S1.length →
    (pre ++ S1 ++ x :: S2 ++ post).length < 1099511627776 → Srt le (S1 ++ S2) → (∀ z ∈ S2, le z x = false) →
    (∀ S', Srt le S' → SEq le S' (S1 ++ x :: S2) → Ev (fun k => l0 k (pre ++ S' ++ post) a b (i + 1)) r) →
    Ev (fun k => l1 k (pre ++ S1 ++ x :: S2 ++ post) a b i j) r
  | 0, S1, S2, j, hn, hj, hl, hs, hz, hk => by
    have := eq_of_len0 hn
    subst this
    refine Ev.step (fun k => by rw [hF.e1, if_neg (by simp at hj; omega), wr_ _ (by omega) (by omega)]) ?_
    have := hk (x :: S2) (List.pairwise_cons.2 ⟨fun z hz' => ht.of_not (hz z hz'), by simpa using hs⟩) (SEq.refl _)
    simpa using this
  | n + 1, S1, S2, j, hn, hj, hl, hs, hz, hk => by
    obtain ⟨S, y, rfl⟩ : ∃ S y, S1 = S ++ [y] := ⟨S1.dropLast, S1.getLast (by intro e; simp [e] at hn), (List.dropLast_concat_getLast _).symm⟩
    simp at hn hj
    obtain ⟨t, h1, h2⟩ := hcmp x y
    have hlen : ((pre ++ (S ++ [y]) ++ x :: S2 ++ post).length : Int) = pre.length + S.length + 1 + 1 + S2.length + post.length := by simp; omega
    have g1 : (pre ++ (S ++ [y]) ++ x :: S2 ++ post).getD j.toNat d = x := by
      have := gt_ (d := d) (pre ++ S ++ [y]) (S2 ++ post) x j (by simp; omega)
      simpa using this
    have g2 : (pre ++ (S ++ [y]) ++ x :: S2 ++ post).getD (j - 1).toNat d = y := by
      have := gt_ (d := d) (pre ++ S) (x :: S2 ++ post) y (j - 1) (by simp; omega)
      simpa using this
    have g3 : ((pre ++ (S ++ [y]) ++ x :: S2 ++ post).set j.toNat y).set (j - 1).toNat x = pre ++ S ++ x :: (y :: S2) ++ post := by
      have := swp'_ (pre ++ S) [] (S2 ++ post) y x (j - 1) j (by simp; omega) (by simp; omega)
      simpa using this
    refine Ev.step (f := fun k => if t < 0 then l1 k (pre ++ S ++ x :: (y :: S2) ++ post) a b i (j - 1) else l0 k (pre ++ (S ++ [y]) ++ x :: S2 ++ post) a b (i + 1)) (fun k => by
      rw [hF.e1, if_pos (by omega), if_pos (by omega), if_pos (by rw [hlen]; omega), wr_ (j - 1) (by omega) (by omega), wr_ (i + 1) (by omega) (by omega), if_pos (by omega), if_pos (by rw [hlen]; omega), g1, g2, h1, g3]
      rfl) ?_
    have hs' := List.pairwise_append.1 hs
    have hs1 := List.pairwise_append.1 hs'.1
    by_cases ht0 : t < 0
    · simp only [if_pos ht0]
      have hyx := h2.1 ht0
      refine ins_l1 ht hcmp hF ha hi0 hi1 x n S (y :: S2) (j - 1) hn (by omega) (by simp at hl ⊢; omega) (by simpa using hs) (fun z hz' => ?_) (fun S' h3 h4 => hk S' h3 (h4.trans ?_))
      · rcases List.mem_cons.1 hz' with rfl | hz'
        · exact hyx
        · exact hz z hz'
      · have h5 : SEq le ([y] ++ [x]) ([x] ++ [y]) := SEq.swap ht (fun p hp q hq => by simp at hp hq; subst hp; subst hq; exact hyx)
        have := SEq.append (SEq.append (SEq.refl S) h5.symm) (SEq.refl S2)
        simpa using this
    · simp only [if_neg ht0]
      have hyx : le y x = true := by
        cases h : le y x
        · exact absurd (h2.2 h) ht0
        · rfl
      have := hk (S ++ [y] ++ x :: S2) (by
        refine List.pairwise_append.2 ⟨hs'.1, List.pairwise_cons.2 ⟨fun z hz' => ht.of_not (hz z hz'), hs'.2.1⟩, fun p hp q hq => ?_⟩
        have hpy : le p y = true := by
          rcases List.mem_append.1 hp with hp | hp
          · exact hs1.2.2 p hp y (by simp)
          · simp at hp; subst hp; exact ht.refl _
        rcases List.mem_cons.1 hq with rfl | hq
        · exact ht.trans hpy hyx
        · exact hs'.2.2 p hp q hq) (SEq.refl _)
      simpa using this
theorem ins_l0 (ht : TP le) (hcmp : Cmp le cmp) (hF : InsF d cmp l0 l1) {pre post : List α} {a b : Int} (ha : a = pre.length) : ∀ (R S : List α) (i : Int), i = a + S.length → b = i + R.length →
    (pre ++ S ++ R ++ post).length < 1099511627776 → Srt le S → Ev (fun k => l0 k (pre ++ S ++ R ++ post) a b i) (pre ++ isort le (S ++ R) ++ post)
  | [], S, i, hi, hb, hl, hs => by
    refine Ev.step (f := fun _ => some (pre ++ isort le (S ++ []) ++ post)) (fun k => ?_) (Ev.now _)
    simp at hb
    rw [hF.e0, if_neg (by omega)]
    simp [srt_isort ht hs]
  | x :: R, S, i, hi, hb, hl, hs => by
    refine Ev.step (f := fun k => l1 k (pre ++ S ++ x :: R ++ post) a b i i) (fun k => by simp at hb; rw [hF.e0, if_pos (by omega)]) ?_
    have hl' := hl
    simp at hl'
    have h0 := ins_l1 ht hcmp hF (pre := pre) (post := R ++ post) (r := pre ++ isort le (S ++ x :: R) ++ post) (a := a) (b := b) (i := i) ha (by omega) (by omega) x S.length S [] i rfl hi (by simp; omega) (by simpa using hs) (by simp) (fun S' h1 h2 => ?_)
    · simpa using h0
    · have h3 := ins_l0 ht hcmp hF (pre := pre) (post := post) (a := a) (b := b) ha R S' (i + 1) (by
        have : S'.length = S.length + 1 := by
          have e := isort_eq ht h1 h2
          rw [e, isort_len]; simp
        omega) (by simp at hb; omega) (by
          have : S'.length = S.length + 1 := by
            have e := isort_eq ht h1 h2
            rw [e, isort_len]; simp
          simp; omega) h1
      have h4 : isort le (S' ++ R) = isort le (S ++ x :: R) := isort_congr ht (by simpa using SEq.append h2 (SEq.refl R))
      rw [h4] at h3
      simpa using h3
/-- What the insertion sort does to a part. -/
theorem ins_f (ht : TP le) (hcmp : Cmp le cmp) (hF : InsF d cmp l0 l1) {pre S post : List α} {a b : Int} (ha : a = pre.length) (hb : b = a + S.length) (hl : (pre ++ S ++ post).length < 1099511627776) :
    Ev (fun k => l0 k (pre ++ S ++ post) a b (wrap64 (a + 1))) (pre ++ isort le S ++ post) := by
  have hl' := hl
  simp at hl'
  rw [wr_ _ (by omega) (by omega)]
  cases S with
  | nil =>
    refine Ev.step (f := fun _ => some (pre ++ isort le [] ++ post)) (fun k => ?_) (Ev.now _)
    simp at hb
    rw [hF.e0, if_neg (by omega)]
    rfl
  | cons x R =>
    have := ins_l0 ht hcmp hF (pre := pre) (post := post) (a := a) (b := b) ha R [x] (a + 1) (by simp) (by simp at hb; omega) (by simp; simp at hl'; omega) (by simp)
    simpa using this

/-! the block swap -/
structure SwF (d : α) (l0 : Nat → List α → Int → Int → Int → Int → Option (List α)) : Prop where
  e0 : ∀ k xs a b n i, l0 (k + 1) xs a b n i = if i < n then (if 0 ≤ (wrap64 (b + i)) then (if (wrap64 (b + i)) < (xs.length : Int) then (if 0 ≤ (wrap64 (a + i)) then (if (wrap64 (a + i)) < (xs.length : Int) then
      (l0 k ((xs.set (wrap64 (a + i)).toNat (xs.getD (wrap64 (b + i)).toNat d)).set (wrap64 (b + i)).toNat (xs.getD (wrap64 (a + i)).toNat d)) a b n (wrap64 (i + 1))) else none) else none) else none) else none) else some xs
variable {s0 : Nat → List α → Int → Int → Int → Int → Option (List α)}
theorem sw_l0 (hF : SwF d s0) {a b n : Int} (ha0 : 0 ≤ a) (hb0 : 0 ≤ b) : ∀ (X Y pre mid post : List α) (i : Int), X.length = Y.length → 0 ≤ i → a + i = pre.length → b + i = pre.length + X.length + mid.length → n = i + X.length →
    (pre ++ X ++ mid ++ Y ++ post).length < 1099511627776 → Ev (fun k => s0 k (pre ++ X ++ mid ++ Y ++ post) a b n i) (pre ++ Y ++ mid ++ X ++ post)
  | [], Y, pre, mid, post, i, hxy, hi, ha, hb, hn, hl => by
    have : Y = [] := eq_of_len0 hxy.symm
    subst this
    refine Ev.step (f := fun _ => some (pre ++ [] ++ mid ++ [] ++ post)) (fun k => ?_) (Ev.now _)
    simp at hn
    rw [hF.e0, if_neg (by omega)]
  | x :: X, [], pre, mid, post, i, hxy, hi, ha, hb, hn, hl => by simp at hxy
  | x :: X, y :: Y, pre, mid, post, i, hxy, hi, ha, hb, hn, hl => by
    have hlen : ((pre ++ x :: X ++ mid ++ y :: Y ++ post).length : Int) = pre.length + X.length + 1 + mid.length + Y.length + 1 + post.length := by simp; omega
    simp at hxy hb hn
    have g1 : (pre ++ x :: X ++ mid ++ y :: Y ++ post).getD (a + i).toNat d = x := by
      have := gt_ (d := d) pre (X ++ mid ++ y :: Y ++ post) x (a + i) (by omega)
      simpa using this
    have g2 : (pre ++ x :: X ++ mid ++ y :: Y ++ post).getD (b + i).toNat d = y := by
      have := gt_ (d := d) (pre ++ x :: X ++ mid) (Y ++ post) y (b + i) (by simp; omega)
      simpa using this
    have g3 : ((pre ++ x :: X ++ mid ++ y :: Y ++ post).set (a + i).toNat y).set (b + i).toNat x = (pre ++ [y]) ++ X ++ (mid ++ [x]) ++ Y ++ post := by
      have := swp_ pre (X ++ mid) (Y ++ post) x y (a + i) (b + i) (by omega) (by simp; omega)
      simpa using this
    refine Ev.step (f := fun k => s0 k ((pre ++ [y]) ++ X ++ (mid ++ [x]) ++ Y ++ post) a b n (i + 1)) (fun k => by
      have hl2 := hlen
      rw [hF.e0, if_pos (by omega), wr_ (b + i) (by omega) (by omega), wr_ (a + i) (by omega) (by omega), wr_ (i + 1) (by omega) (by omega), if_pos (by omega), if_pos (by rw [hlen]; omega), if_pos (by omega), if_pos (by rw [hlen]; omega), g1, g2, g3]) ?_
    have := sw_l0 hF (a := a) (b := b) (n := n) ha0 hb0 X Y (pre ++ [y]) (mid ++ [x]) post (i + 1) hxy (by omega) (by simp; omega) (by simp; omega) (by omega) (by simp at hl ⊢; omega)
    simpa using this

/-! the turn of two neighbouring parts -/
structure RoF (s0 : Nat → List α → Int → Int → Int → Int → Option (List α)) (l0 : Nat → List α → Int → Int → Int → Option (List α)) : Prop where
  e0 : ∀ k xs m i j, l0 (k + 1) xs m i j = if i = j then ((s0 k xs (wrap64 (m - i)) m i 0).bind fun t => some t) else (if i > j then ((s0 k xs (wrap64 (m - i)) m j 0).bind fun t => (l0 k t m (wrap64 (i - j)) j)) else
      ((s0 k xs (wrap64 (m - i)) (wrap64 ((wrap64 (m + j)) - i)) i 0).bind fun t => (l0 k t m i (wrap64 (j - i)))))
variable {r0 : Nat → List α → Int → Int → Int → Option (List α)}
theorem ro_l0 (hS : SwF d s0) (hF : RoF s0 r0) {m : Int} : ∀ (n : Nat) (A B pre post : List α) (i j : Int), A.length + B.length ≤ n → 0 < A.length → 0 < B.length → m = pre.length + A.length → i = A.length → j = B.length →
    (pre ++ A ++ B ++ post).length < 1099511627776 → Ev (fun k => r0 k (pre ++ A ++ B ++ post) m i j) (pre ++ B ++ A ++ post)
  | 0, A, B, pre, post, i, j, hn, hA, hB, hm, hi, hj, hl => by omega
  | n + 1, A, B, pre, post, i, j, hn, hA, hB, hm, hi, hj, hl => by
    have hlen : ((pre ++ A ++ B ++ post).length : Int) = pre.length + A.length + B.length + post.length := by simp; omega
    rcases Nat.lt_trichotomy A.length B.length with h | h | h
    · -- B is longer: its last part comes to the front
      obtain ⟨B1, B2, rfl, h2⟩ : ∃ B1 B2, B = B1 ++ B2 ∧ B2.length = A.length := ⟨B.take (B.length - A.length), B.drop (B.length - A.length), (List.take_append_drop _ _).symm, by simp; omega⟩
      simp at hj hlen hn h hl
      refine Ev.step (f := fun k => (s0 k (pre ++ A ++ (B1 ++ B2) ++ post) (m - i) (m + j - i) i 0).bind fun t => r0 k t m i (j - i)) (fun k => by
        rw [hF.e0, if_neg (by omega), if_neg (by omega), wr_ (m - i) (by omega) (by omega), wr_ (m + j) (by omega) (by omega), wr_ (m + j - i) (by omega) (by omega), wr_ (j - i) (by omega) (by omega)]) ?_
      have hs := sw_l0 hS (a := m - i) (b := m + j - i) (n := i) (by omega) (by omega) A B2 pre B1 post 0 h2.symm (by omega) (by omega) (by omega) (by omega) (by simp; omega)
      have hs' : Ev (fun k => s0 k (pre ++ A ++ (B1 ++ B2) ++ post) (m - i) (m + j - i) i 0) (pre ++ B2 ++ B1 ++ (A ++ post)) := by simpa using hs
      refine Ev.bind hs' ?_
      have := ro_l0 hS hF (m := m) n B2 B1 pre (A ++ post) i (j - i) (by omega) (by omega) (by omega) (by omega) (by omega) (by omega) (by simp; omega)
      simpa using this
    · refine Ev.step (f := fun k => (s0 k (pre ++ A ++ B ++ post) (m - i) m i 0).bind fun t => some t) (fun k => by
        rw [hF.e0, if_pos (by omega), wr_ (m - i) (by omega) (by omega)]) ?_
      have hs := sw_l0 hS (a := m - i) (b := m) (n := i) (by omega) (by omega) A B pre [] post 0 h (by omega) (by omega) (by simp; omega) (by omega) (by simpa using hl)
      refine Ev.bind (a := pre ++ B ++ A ++ post) (by simpa using hs) (Ev.now _)
    · obtain ⟨A1, A2, rfl, h2⟩ : ∃ A1 A2, A = A1 ++ A2 ∧ A1.length = B.length := ⟨A.take B.length, A.drop B.length, (List.take_append_drop _ _).symm, by simp; omega⟩
      simp at hi hlen hn h hl hm
      refine Ev.step (f := fun k => (s0 k (pre ++ (A1 ++ A2) ++ B ++ post) (m - i) m j 0).bind fun t => r0 k t m (i - j) j) (fun k => by
        rw [hF.e0, if_neg (by omega), if_pos (by omega), wr_ (m - i) (by omega) (by omega), wr_ (i - j) (by omega) (by omega)]) ?_
      have hs := sw_l0 hS (a := m - i) (b := m) (n := j) (by omega) (by omega) A1 B pre A2 post 0 h2 (by omega) (by omega) (by omega) (by omega) (by simp; omega)
      have hs' : Ev (fun k => s0 k (pre ++ (A1 ++ A2) ++ B ++ post) (m - i) m j 0) ((pre ++ B) ++ A2 ++ A1 ++ post) := by simpa using hs
      refine Ev.bind hs' ?_
      have := ro_l0 hS hF (m := m) n A2 A1 (pre ++ B) post (i - j) j (by omega) (by omega) (by omega) (by simp; omega) (by omega) (by omega) (by simp; omega)
      simpa using this
end SortB
section SortC
variable {α : Type} {d : α} {le : α → α → Bool} {cmp : α → α → Option Int}
abbrev hlf (x y : Int) : Int := wrap64 ((IntKind.u64.wrap (wrap64 (x + y))) / 2)
structure SyF (d : α) (cmp : α → α → Option Int) (r0 : Nat → List α → Int → Int → Int → Option (List α)) (l0 : Nat → List α → Int → Int → Int → Option (List α)) (l1 : Nat → List α → Int → Int → Option (List α)) (l2 : Nat → List α → Int → Int → Int → Option (List α)) (l3 : Nat → List α → Int → Int → Option (List α))
    (j4 : Nat → List α → Int → Int → Int → Int → Int → Int → Int → Option (List α)) (l4 : Nat → List α → Int → Int → Int → Int → Int → Int → Int → Int → Option (List α)) (j6 : Nat → List α → Int → Int → Int → Int → Int → Int → Bool → Option (List α)) (j7 : Nat → List α → Int → Int → Int → Int → Int → Option (List α)) (j8 : Nat → List α → Int → Int → Int → Int → Int → Bool → Option (List α))
    (f : Nat → List α → Int → Int → Int → Option (List α)) : Prop where
  ef : ∀ k xs a m b, f (k + 1) xs a m b = if wrap64 (m - a) = 1 then l0 k xs a m b else (if wrap64 (b - m) = 1 then l2 k xs m a m else (if m > hlf a b then j4 k xs a m b (hlf a b) (wrap64 (hlf a b + m)) (wrap64 (wrap64 (hlf a b + m) - b)) (hlf a b) else j4 k xs a m b (hlf a b) (wrap64 (hlf a b + m)) a m))
  e0 : ∀ k xs a i j, l0 (k + 1) xs a i j = if i < j then (if 0 ≤ hlf i j then (if hlf i j < (xs.length : Int) then (if 0 ≤ a then (if a < (xs.length : Int) then ((cmp (xs.getD (hlf i j).toNat d) (xs.getD a.toNat d)).bind fun t => (if t < 0 then l0 k xs a (wrap64 (hlf i j + 1)) j else l0 k xs a i (hlf i j))) else none) else none) else none) else none) else l1 k xs i a
  e1 : ∀ k xs i q, l1 (k + 1) xs i q = if q < wrap64 (i - 1) then (if 0 ≤ wrap64 (q + 1) then (if wrap64 (q + 1) < (xs.length : Int) then (if 0 ≤ q then (if q < (xs.length : Int) then l1 k ((xs.set q.toNat (xs.getD (wrap64 (q + 1)).toNat d)).set (wrap64 (q + 1)).toNat (xs.getD q.toNat d)) i (wrap64 (q + 1)) else none) else none) else none) else none) else some xs
  e2 : ∀ k xs m i j, l2 (k + 1) xs m i j = if i < j then (if 0 ≤ m then (if m < (xs.length : Int) then (if 0 ≤ hlf i j then (if hlf i j < (xs.length : Int) then ((cmp (xs.getD m.toNat d) (xs.getD (hlf i j).toNat d)).bind fun t => (if t < 0 then l2 k xs m i (hlf i j) else l2 k xs m (wrap64 (hlf i j + 1)) j)) else none) else none) else none) else none) else l3 k xs i m
  e3 : ∀ k xs i q, l3 (k + 1) xs i q = if q > i then (if 0 ≤ wrap64 (q - 1) then (if wrap64 (q - 1) < (xs.length : Int) then (if 0 ≤ q then (if q < (xs.length : Int) then l3 k ((xs.set q.toNat (xs.getD (wrap64 (q - 1)).toNat d)).set (wrap64 (q - 1)).toNat (xs.getD q.toNat d)) i (wrap64 (q - 1)) else none) else none) else none) else none) else some xs
  ej4 : ∀ k xs a m b mid n st r, j4 (k + 1) xs a m b mid n st r = l4 k xs a m b mid n st r (wrap64 (n - 1))
  e4 : ∀ k xs a m b mid n st r p, l4 (k + 1) xs a m b mid n st r p = if st < r then (if 0 ≤ wrap64 (p - hlf st r) then (if wrap64 (p - hlf st r) < (xs.length : Int) then (if 0 ≤ hlf st r then (if hlf st r < (xs.length : Int) then ((cmp (xs.getD (wrap64 (p - hlf st r)).toNat d) (xs.getD (hlf st r).toNat d)).bind fun t => (if t < 0 then l4 k xs a m b mid n st (hlf st r) p else l4 k xs a m b mid n (wrap64 (hlf st r + 1)) r p)) else none) else none) else none) else none)
    else (if st < m then j6 k xs a m b mid st (wrap64 (n - st)) (decide (m < wrap64 (n - st))) else j6 k xs a m b mid st (wrap64 (n - st)) false)
  ej6 : ∀ k xs a m b mid st en c, j6 (k + 1) xs a m b mid st en c = if c = true then ((r0 k xs m (wrap64 (m - st)) (wrap64 (en - m))).bind fun t => j7 k t a b mid st en) else j7 k xs a b mid st en
  ej7 : ∀ k xs a b mid st en, j7 (k + 1) xs a b mid st en = if a < st then j8 k xs a b mid st en (decide (st < mid)) else j8 k xs a b mid st en false
  ej8 : ∀ k xs a b mid st en c, j8 (k + 1) xs a b mid st en c = if c = true then ((f k xs a st mid).bind fun t => (if mid < en then (if en < b then ((f k t mid en b).bind fun u => some u) else some t) else some t)) else (if mid < en then (if en < b then ((f k xs mid en b).bind fun u => some u) else some xs) else some xs)
variable {s0 : Nat → List α → Int → Int → Int → Int → Option (List α)} {r0 : Nat → List α → Int → Int → Int → Option (List α)} {l0 : Nat → List α → Int → Int → Int → Option (List α)} {l1 : Nat → List α → Int → Int → Option (List α)} {l2 : Nat → List α → Int → Int → Int → Option (List α)} {l3 : Nat → List α → Int → Int → Option (List α)}
    {j4 : Nat → List α → Int → Int → Int → Int → Int → Int → Int → Option (List α)} {l4 : Nat → List α → Int → Int → Int → Int → Int → Int → Int → Int → Option (List α)} {j6 : Nat → List α → Int → Int → Int → Int → Int → Int → Bool → Option (List α)} {j7 : Nat → List α → Int → Int → Int → Int → Int → Option (List α)} {j8 : Nat → List α → Int → Int → Int → Int → Int → Bool → Option (List α)}
    {f : Nat → List α → Int → Int → Int → Option (List α)}
theorem hlf_ (x y : Int) (hx : 0 ≤ x) (hy : 0 ≤ y) (h : x + y < 9223372036854775808) : hlf x y = (x + y) / 2 := half_ x y hx hy h
theorem sy_l1 (hF : SyF d cmp r0 l0 l1 l2 l3 j4 l4 j6 j7 j8 f) (x : α) {i : Int} : ∀ (R pre rest : List α) (q : Int), q = pre.length → i = q + R.length + 1 → (pre ++ x :: (R ++ rest)).length < 1099511627776 →
    Ev (fun k => l1 k (pre ++ x :: (R ++ rest)) i q) (pre ++ R ++ x :: rest)
  | [], pre, rest, q, hq, hi, hl => by
    refine Ev.step (f := fun _ => some (pre ++ [] ++ x :: rest)) (fun k => ?_) (Ev.now _)
    simp at hi hl
    rw [hF.e1, wr_ _ (by omega) (by omega), if_neg (by omega)]
    simp
  | y :: R, pre, rest, q, hq, hi, hl => by
    have hlen : ((pre ++ x :: (y :: R ++ rest)).length : Int) = pre.length + R.length + 2 + rest.length := by simp; omega
    simp at hi hl
    have g1 : (pre ++ x :: (y :: R ++ rest)).getD q.toNat d = x := gt_ (d := d) pre (y :: R ++ rest) x q hq
    have g2 : (pre ++ x :: (y :: R ++ rest)).getD (q + 1).toNat d = y := by
      have := gt_ (d := d) (pre ++ [x]) (R ++ rest) y (q + 1) (by simp; omega)
      simpa using this
    have g3 : ((pre ++ x :: (y :: R ++ rest)).set q.toNat y).set (q + 1).toNat x = (pre ++ [y]) ++ x :: (R ++ rest) := by
      have := swp_ pre [] (R ++ rest) x y q (q + 1) hq (by simp; omega)
      simpa using this
    refine Ev.step (f := fun k => l1 k ((pre ++ [y]) ++ x :: (R ++ rest)) i (q + 1)) (fun k => by
      rw [hF.e1, wr_ (i - 1) (by omega) (by omega), if_pos (by omega), wr_ (q + 1) (by omega) (by omega), if_pos (by omega), if_pos (by rw [hlen]; omega), if_pos (by omega), if_pos (by rw [hlen]; omega), g1, g2, g3]) ?_
    have := sy_l1 hF x (i := i) R (pre ++ [y]) rest (q + 1) (by simp; omega) (by omega) (by simp; omega)
    simpa using this
theorem sy_l3 (hF : SyF d cmp r0 l0 l1 l2 l3 j4 l4 j6 j7 j8 f) (x : α) {i : Int} {pre : List α} (hi : i = pre.length) : ∀ (n : Nat) (R rest : List α) (q : Int), R.length = n → q = i + R.length → (pre ++ R ++ x :: rest).length < 1099511627776 →
    Ev (fun k => l3 k (pre ++ R ++ x :: rest) i q) (pre ++ x :: (R ++ rest))
  | 0, R, rest, q, hn, hq, hl => by
    have := eq_of_len0 hn
    subst this
    refine Ev.step (f := fun _ => some (pre ++ x :: ([] ++ rest))) (fun k => ?_) (Ev.now _)
    simp at hq
    rw [hF.e3, if_neg (by omega)]
    simp
  | n + 1, R, rest, q, hn, hq, hl => by
    obtain ⟨S, y, rfl⟩ : ∃ S y, R = S ++ [y] := ⟨R.dropLast, R.getLast (by intro e; simp [e] at hn), (List.dropLast_concat_getLast _).symm⟩
    have hlen : ((pre ++ (S ++ [y]) ++ x :: rest).length : Int) = pre.length + S.length + 2 + rest.length := by simp; omega
    simp at hn hq hl
    have g1 : (pre ++ (S ++ [y]) ++ x :: rest).getD q.toNat d = x := gt_ (d := d) (pre ++ (S ++ [y])) rest x q (by simp; omega)
    have g2 : (pre ++ (S ++ [y]) ++ x :: rest).getD (q - 1).toNat d = y := by
      have := gt_ (d := d) (pre ++ S) (x :: rest) y (q - 1) (by simp; omega)
      simpa using this
    have g3 : ((pre ++ (S ++ [y]) ++ x :: rest).set q.toNat y).set (q - 1).toNat x = pre ++ S ++ x :: (y :: rest) := by
      have := swp'_ (pre ++ S) [] rest y x (q - 1) q (by simp; omega) (by simp; omega)
      simpa using this
    refine Ev.step (f := fun k => l3 k (pre ++ S ++ x :: (y :: rest)) i (q - 1)) (fun k => by
      rw [hF.e3, if_pos (by omega), wr_ (q - 1) (by omega) (by omega), if_pos (by omega), if_pos (by rw [hlen]; omega), if_pos (by omega), if_pos (by rw [hlen]; omega), g1, g2, g3]) ?_
    have := sy_l3 hF x hi n S (y :: rest) (q - 1) hn (by omega) (by simp; omega)
    simpa using this
/-- The first part is one element: where it belongs in the second part. -/
theorem sy_l0 (ht : TP le) (hcmp : Cmp le cmp) (hF : SyF d cmp r0 l0 l1 l2 l3 j4 l4 j6 j7 j8 f) {pre B post r : List α} {x : α} {a : Int} (ha : a = pre.length) (hl : (pre ++ x :: (B ++ post)).length < 1099511627776) (hB : Srt le B)
    (hk : ∀ C1 C2, B = C1 ++ C2 → (∀ z ∈ C1, le x z = false) → (∀ z ∈ C2, le x z = true) → Ev (fun k => l1 k (pre ++ x :: (B ++ post)) (a + 1 + C1.length) a) r) :
    ∀ (n : Nat) (B1 M B2 : List α) (i j : Int), M.length ≤ n → B = B1 ++ M ++ B2 → (∀ z ∈ B1, le x z = false) → (∀ z ∈ B2, le x z = true) → i = a + 1 + B1.length → j = i + M.length → Ev (fun k => l0 k (pre ++ x :: (B ++ post)) a i j) r
  | n, B1, [], B2, i, j, hn, hb, h1, h2, hi, hj => by
    refine Ev.step (f := fun k => l1 k (pre ++ x :: (B ++ post)) i a) (fun k => ?_) ?_
    · simp at hj
      rw [hF.e0, if_neg (by omega)]
    · have := hk B1 B2 (by simpa using hb) h1 h2
      rw [hi]; exact this
  | 0, B1, m :: M, B2, i, j, hn, hb, h1, h2, hi, hj => by simp at hn
  | n + 1, B1, m :: M, B2, i, j, hn, hb, h1, h2, hi, hj => by
    have hlen : ((pre ++ x :: (B ++ post)).length : Int) = pre.length + B1.length + (M.length + 1) + B2.length + 1 + post.length := by rw [hb]; simp; omega
    simp only [List.length_cons] at hn hj
    have hh : hlf i j = (i + j) / 2 := hlf_ i j (by omega) (by omega) (by omega)
    obtain ⟨M1, z, M2, hM, hM1⟩ : ∃ M1 z M2, m :: M = M1 ++ z :: M2 ∧ (M1.length : Int) = (i + j) / 2 - i := by
      have hlt : ((i + j) / 2 - i).toNat < (m :: M).length := by simp; omega
      refine ⟨(m :: M).take ((i + j) / 2 - i).toNat, (m :: M)[((i + j) / 2 - i).toNat], (m :: M).drop (((i + j) / 2 - i).toNat + 1), ?_, ?_⟩
      · rw [← List.drop_eq_getElem_cons hlt, List.take_append_drop]
      · rw [List.length_take]; simp; omega
    have hMl : (M1.length : Int) + 1 + M2.length = M.length + 1 := by have := congrArg List.length hM; simp at this; omega
    obtain ⟨t, c1, c2⟩ := hcmp z x
    have g1 : (pre ++ x :: (B ++ post)).getD ((i + j) / 2).toNat d = z := by
      have := gt_ (d := d) (pre ++ x :: (B1 ++ M1)) (M2 ++ B2 ++ post) z ((i + j) / 2) (by simp; omega)
      rw [hb, hM]; simpa using this
    have g2 : (pre ++ x :: (B ++ post)).getD a.toNat d = x := gt_ (d := d) pre (B ++ post) x a ha
    refine Ev.step (f := fun k => if t < 0 then l0 k (pre ++ x :: (B ++ post)) a ((i + j) / 2 + 1) j else l0 k (pre ++ x :: (B ++ post)) a i ((i + j) / 2)) (fun k => by
      rw [hF.e0, if_pos (by omega), hh, if_pos (by omega), if_pos (by rw [hlen]; omega), if_pos (by omega), if_pos (by rw [hlen]; omega), g1, g2, c1, wr_ ((i + j) / 2 + 1) (by omega) (by omega)]
      rfl) ?_
    have hs : Srt le (B1 ++ (M1 ++ z :: M2) ++ B2) := by rw [← hM, ← hb]; exact hB
    have hs1 := List.pairwise_append.1 hs
    have hs2 := List.pairwise_append.1 (List.pairwise_append.1 hs1.1).2.1
    have hs3 := List.pairwise_cons.1 hs2.2.1
    by_cases ht0 : t < 0
    · simp only [if_pos ht0]
      have hxz := c2.1 ht0
      refine sy_l0 ht hcmp hF ha hl hB hk n (B1 ++ (M1 ++ [z])) M2 B2 _ _ (by omega) (by rw [hb, hM]; simp) (fun u hu => ?_) h2 (by simp; omega) (by omega)
      rcases List.mem_append.1 hu with hu | hu
      · exact h1 u hu
      · have huz : le u z = true := by
          rcases List.mem_append.1 hu with hu | hu
          · exact hs2.2.2 u hu z (by simp)
          · simp at hu; subst hu; exact ht.refl _
        cases hxu : le x u
        · rfl
        · rw [ht.trans hxu huz] at hxz; cases hxz
    · simp only [if_neg ht0]
      have hxz : le x z = true := by
        cases h : le x z
        · exact absurd (c2.2 h) ht0
        · rfl
      refine sy_l0 ht hcmp hF ha hl hB hk n B1 M1 (z :: M2 ++ B2) _ _ (by omega) (by rw [hb, hM]; simp) h1 (fun u hu => ?_) hi (by omega)
      rcases List.mem_append.1 hu with hu | hu
      · rcases List.mem_cons.1 hu with rfl | hu
        · exact hxz
        · exact ht.trans hxz (hs3.1 u hu)
      · exact h2 u hu
/-- The second part is one element: where it belongs in the first part. -/
theorem sy_l2 (ht : TP le) (hcmp : Cmp le cmp) (hF : SyF d cmp r0 l0 l1 l2 l3 j4 l4 j6 j7 j8 f) {pre B post r : List α} {x : α} {a m : Int} (ha : a = pre.length) (hm : m = a + B.length) (hl : (pre ++ B ++ x :: post).length < 1099511627776) (hB : Srt le B)
    (hk : ∀ C1 C2, B = C1 ++ C2 → (∀ z ∈ C1, le z x = true) → (∀ z ∈ C2, le z x = false) → Ev (fun k => l3 k (pre ++ B ++ x :: post) (a + C1.length) m) r) :
    ∀ (n : Nat) (B1 M B2 : List α) (i j : Int), M.length ≤ n → B = B1 ++ M ++ B2 → (∀ z ∈ B1, le z x = true) → (∀ z ∈ B2, le z x = false) → i = a + B1.length → j = i + M.length → Ev (fun k => l2 k (pre ++ B ++ x :: post) m i j) r
  | n, B1, [], B2, i, j, hn, hb, h1, h2, hi, hj => by
    refine Ev.step (f := fun k => l3 k (pre ++ B ++ x :: post) i m) (fun k => ?_) ?_
    · simp at hj
      rw [hF.e2, if_neg (by omega)]
    · have := hk B1 B2 (by simpa using hb) h1 h2
      rw [hi]; exact this
  | 0, B1, m' :: M, B2, i, j, hn, hb, h1, h2, hi, hj => by simp at hn
  | n + 1, B1, m' :: M, B2, i, j, hn, hb, h1, h2, hi, hj => by
    have hlen : ((pre ++ B ++ x :: post).length : Int) = pre.length + B1.length + (M.length + 1) + B2.length + 1 + post.length := by rw [hb]; simp; omega
    have hBl : (B.length : Int) = B1.length + (M.length + 1) + B2.length := by rw [hb]; simp; omega
    simp only [List.length_cons] at hn hj
    have hh : hlf i j = (i + j) / 2 := hlf_ i j (by omega) (by omega) (by omega)
    obtain ⟨M1, z, M2, hM, hM1⟩ : ∃ M1 z M2, m' :: M = M1 ++ z :: M2 ∧ (M1.length : Int) = (i + j) / 2 - i := by
      have hlt : ((i + j) / 2 - i).toNat < (m' :: M).length := by simp; omega
      refine ⟨(m' :: M).take ((i + j) / 2 - i).toNat, (m' :: M)[((i + j) / 2 - i).toNat], (m' :: M).drop (((i + j) / 2 - i).toNat + 1), ?_, ?_⟩
      · rw [← List.drop_eq_getElem_cons hlt, List.take_append_drop]
      · rw [List.length_take]; simp; omega
    have hMl : (M1.length : Int) + 1 + M2.length = M.length + 1 := by have := congrArg List.length hM; simp at this; omega
    obtain ⟨t, c1, c2⟩ := hcmp x z
    have g1 : (pre ++ B ++ x :: post).getD ((i + j) / 2).toNat d = z := by
      have := gt_ (d := d) (pre ++ (B1 ++ M1)) (M2 ++ B2 ++ x :: post) z ((i + j) / 2) (by simp; omega)
      rw [hb, hM]; simpa using this
    have g2 : (pre ++ B ++ x :: post).getD m.toNat d = x := gt_ (d := d) (pre ++ B) post x m (by simp; omega)
    refine Ev.step (f := fun k => if t < 0 then l2 k (pre ++ B ++ x :: post) m i ((i + j) / 2) else l2 k (pre ++ B ++ x :: post) m ((i + j) / 2 + 1) j) (fun k => by
      rw [hF.e2, if_pos (by omega), hh, if_pos (by omega), if_pos (by rw [hlen]; omega), if_pos (by omega), if_pos (by rw [hlen]; omega), g1, g2, c1, wr_ ((i + j) / 2 + 1) (by omega) (by omega)]
      rfl) ?_
    have hs : Srt le (B1 ++ (M1 ++ z :: M2) ++ B2) := by rw [← hM, ← hb]; exact hB
    have hs1 := List.pairwise_append.1 hs
    have hs2 := List.pairwise_append.1 (List.pairwise_append.1 hs1.1).2.1
    have hs3 := List.pairwise_cons.1 hs2.2.1
    by_cases ht0 : t < 0
    · simp only [if_pos ht0]
      have hxz := c2.1 ht0
      refine sy_l2 ht hcmp hF ha hm hl hB hk n B1 M1 (z :: M2 ++ B2) _ _ (by omega) (by rw [hb, hM]; simp) h1 (fun u hu => ?_) hi (by omega)
      rcases List.mem_append.1 hu with hu | hu
      · rcases List.mem_cons.1 hu with rfl | hu
        · exact hxz
        · cases hux : le u x
          · rfl
          · rw [ht.trans (hs3.1 u hu) hux] at hxz; cases hxz
      · exact h2 u hu
    · simp only [if_neg ht0]
      have hxz : le z x = true := by
        cases h : le z x
        · exact absurd (c2.2 h) ht0
        · rfl
      refine sy_l2 ht hcmp hF ha hm hl hB hk n (B1 ++ (M1 ++ [z])) M2 B2 _ _ (by omega) (by rw [hb, hM]; simp) (fun u hu => ?_) h2 (by simp; omega) (by omega)
      rcases List.mem_append.1 hu with hu | hu
      · exact h1 u hu
      · rcases List.mem_append.1 hu with hu | hu
        · exact ht.trans (hs2.2.2 u hu z (by simp)) hxz
        · simp at hu; subst hu; exact hxz
end SortC
section SortD
variable {α : Type} {d : α} {le : α → α → Bool} {cmp : α → α → Option Int}
variable {s0 : Nat → List α → Int → Int → Int → Int → Option (List α)} {r0 : Nat → List α → Int → Int → Int → Option (List α)} {l0 : Nat → List α → Int → Int → Int → Option (List α)} {l1 : Nat → List α → Int → Int → Option (List α)} {l2 : Nat → List α → Int → Int → Int → Option (List α)} {l3 : Nat → List α → Int → Int → Option (List α)}
    {j4 : Nat → List α → Int → Int → Int → Int → Int → Int → Int → Option (List α)} {l4 : Nat → List α → Int → Int → Int → Int → Int → Int → Int → Int → Option (List α)} {j6 : Nat → List α → Int → Int → Int → Int → Int → Int → Bool → Option (List α)} {j7 : Nat → List α → Int → Int → Int → Int → Int → Option (List α)} {j8 : Nat → List α → Int → Int → Int → Int → Int → Bool → Option (List α)}
    {f : Nat → List α → Int → Int → Int → Option (List α)}
/-- The search in the general case: P(c) is 'what stands at p - c is below what stands at c'; it is false below the answer and true from there on. -/
theorem sy_l4 (hcmp : Cmp le cmp) (hF : SyF d cmp r0 l0 l1 l2 l3 j4 l4 j6 j7 j8 f) {xs r : List α} {a m b mid nn p s1 s2 : Int} (hl : xs.length < 1099511627776) (h0 : 0 ≤ s1) (h2 : s2 ≤ xs.length)
    (hp : ∀ c, s1 ≤ c → c < s2 → 0 ≤ p - c ∧ p - c < xs.length)
    (hmono : ∀ c e, s1 ≤ c → c ≤ e → e < s2 → le (xs.getD c.toNat d) (xs.getD (p - c).toNat d) = false → le (xs.getD e.toNat d) (xs.getD (p - e).toNat d) = false)
    (hk : ∀ st, s1 ≤ st → st ≤ s2 → (s1 < st → le (xs.getD (st - 1).toNat d) (xs.getD (p - (st - 1)).toNat d) = true) → (st < s2 → le (xs.getD st.toNat d) (xs.getD (p - st).toNat d) = false) →
      Ev (fun k => if st < m then j6 k xs a m b mid st (wrap64 (nn - st)) (decide (m < wrap64 (nn - st))) else j6 k xs a m b mid st (wrap64 (nn - st)) false) r) :
    ∀ (n : Nat) (st e : Int), s1 ≤ st → st ≤ e → e ≤ s2 → (e - st).toNat ≤ n → (s1 < st → le (xs.getD (st - 1).toNat d) (xs.getD (p - (st - 1)).toNat d) = true) → (e < s2 → le (xs.getD e.toNat d) (xs.getD (p - e).toNat d) = false) →
    Ev (fun k => l4 k xs a m b mid nn st e p) r := by
  intro n
  induction n with
  | zero =>
    intro st e q1 q2 q3 q4 q5 q6
    have : st = e := by omega
    subst this
    exact Ev.step (fun k => by rw [hF.e4, if_neg (by omega)]) (hk st q1 q3 q5 q6)
  | succ n ih =>
    intro st e q1 q2 q3 q4 q5 q6
    by_cases hse : st = e
    · subst hse
      exact Ev.step (fun k => by rw [hF.e4, if_neg (by omega)]) (hk st q1 q3 q5 q6)
    have hh : hlf st e = (st + e) / 2 := hlf_ st e (by omega) (by omega) (by omega)
    obtain ⟨c, hc⟩ : ∃ c, (st + e) / 2 = c := ⟨_, rfl⟩
    have hc1 : st ≤ c := by omega
    have hc2 : c < e := by omega
    have hpc := hp c (by omega) (by omega)
    obtain ⟨t, c1, c2⟩ := hcmp (xs.getD (p - c).toNat d) (xs.getD c.toNat d)
    refine Ev.step (f := fun k => if t < 0 then l4 k xs a m b mid nn st c p else l4 k xs a m b mid nn (c + 1) e p) (fun k => by
      rw [hF.e4, if_pos (by omega), hh, hc, wr_ (p - c) (by omega) (by omega), if_pos (by omega), if_pos (by omega), if_pos (by omega), if_pos (by omega), c1, wr_ (c + 1) (by omega) (by omega)]
      rfl) ?_
    by_cases ht0 : t < 0
    · simp only [if_pos ht0]
      exact ih st c q1 hc1 (by omega) (by omega) q5 (fun _ => c2.1 ht0)
    · simp only [if_neg ht0]
      refine ih (c + 1) e (by omega) (by omega) q3 (by omega) (fun _ => ?_) q6
      rw [show c + 1 - 1 = c by omega]
      cases h : le (xs.getD c.toNat d) (xs.getD (p - c).toNat d)
      · exact absurd (c2.2 h) ht0
      · rfl
/-- What stands at a place of one of the parts. -/
theorem gA_ (pre A rest : List α) (c : Int) (i : Nat) (h : i < A.length) (hc : c = pre.length + i) : (pre ++ A ++ rest).getD c.toNat d = A[i] := by
  subst hc
  rw [List.getD_eq_getElem?_getD, show ((pre.length : Int) + (i : Int)).toNat = pre.length + i by omega, List.append_assoc, List.getElem?_append_right (by omega), show pre.length + i - pre.length = i by omega, List.getElem?_append_left h, List.getElem?_eq_getElem h]
  rfl
theorem srt_get {A : List α} (h : Srt le A) (ht : TP le) {i j : Nat} (hij : i ≤ j) (hj : j < A.length) : le (A[i]'(by omega)) A[j] = true := by
  rcases Nat.lt_or_eq_of_le hij with h1 | rfl
  · exact (List.pairwise_iff_getElem.1 h) i j (by omega) hj h1
  · exact ht.refl _
theorem sy_f (ht : TP le) (hcmp : Cmp le cmp) (hS : SwF d s0) (hR : RoF s0 r0) (hF : SyF d cmp r0 l0 l1 l2 l3 j4 l4 j6 j7 j8 f) : ∀ (n : Nat) (A B pre post : List α) (a m b : Int), A.length + B.length ≤ n → 0 < A.length → 0 < B.length → a = pre.length → m = a + A.length → b = m + B.length →
    (pre ++ A ++ B ++ post).length < 1099511627776 → Srt le A → Srt le B → Ev (fun k => f k (pre ++ A ++ B ++ post) a m b) (pre ++ isort le (A ++ B) ++ post) := by
  intro n
  induction n with
  | zero => intro A B pre post a m b hn hA hB; omega
  | succ n ih =>
  intro A B pre post a m b hn hA hB ha hm hb hl sA sB
  have hlen : ((pre ++ A ++ B ++ post).length : Int) = pre.length + A.length + B.length + post.length := by simp; omega
  have hl' := hl
  simp only [List.length_append] at hl'
  by_cases hA1 : A.length = 1
  · -- one element, then the second part
    obtain ⟨x, rfl⟩ : ∃ x, A = [x] := by
      match A, hA1 with
      | [x], _ => exact ⟨x, rfl⟩
    have e1 : pre ++ [x] ++ B ++ post = pre ++ x :: (B ++ post) := by simp
    rw [e1] at hl ⊢
    simp at hm
    refine Ev.step (f := fun k => l0 k (pre ++ x :: (B ++ post)) a m b) (fun k => by
      rw [hF.ef, wr_ (m - a) (by omega) (by omega), if_pos (by omega)]) ?_
    refine sy_l0 ht hcmp hF ha hl sB (fun C1 C2 hC h1 h2 => ?_) B.length [] B [] m b (by omega) (by simp) (by simp) (by simp) (by simp; omega) (by omega)
    subst hC
    have h3 := sy_l1 hF x (i := a + 1 + C1.length) C1 pre (C2 ++ post) a ha (by omega) (by simp at hl ⊢; omega)
    have h4 : C1 ++ x :: C2 = isort le ([x] ++ (C1 ++ C2)) := by
      have hs := List.pairwise_append.1 sB
      refine isort_eq ht (List.pairwise_append.2 ⟨hs.1, List.pairwise_cons.2 ⟨h2, hs.2.1⟩, fun p hp q hq => ?_⟩) ?_
      · rcases List.mem_cons.1 hq with rfl | hq
        · exact ht.of_not (h1 p hp)
        · exact hs.2.2 p hp q hq
      · have := SEq.append (SEq.swap ht (A := [x]) (B := C1) (fun p hp q hq => by simp at hp; subst hp; exact h1 q hq)).symm (SEq.refl C2)
        simpa using this
    rw [← h4]
    simpa using h3
  by_cases hB1 : B.length = 1
  · obtain ⟨x, rfl⟩ : ∃ x, B = [x] := by
      match B, hB1 with
      | [x], _ => exact ⟨x, rfl⟩
    have e1 : pre ++ A ++ [x] ++ post = pre ++ A ++ x :: post := by simp
    rw [e1] at hl ⊢
    simp at hb
    refine Ev.step (f := fun k => l2 k (pre ++ A ++ x :: post) m a m) (fun k => by
      rw [hF.ef, wr_ (m - a) (by omega) (by omega), if_neg (by omega), wr_ (b - m) (by omega) (by omega), if_pos (by omega)]) ?_
    refine sy_l2 ht hcmp hF ha hm hl sA (fun C1 C2 hC h1 h2 => ?_) A.length [] A [] a m (by omega) (by simp) (by simp) (by simp) (by simp) (by omega)
    subst hC
    have h3 := sy_l3 hF x (i := a + C1.length) (pre := pre ++ C1) (by simp; omega) C2.length C2 post m rfl (by simp at hm; omega) (by simp at hl ⊢; omega)
    have h4 : C1 ++ x :: C2 = isort le ((C1 ++ C2) ++ [x]) := by
      have hs := List.pairwise_append.1 sA
      refine isort_eq ht (List.pairwise_append.2 ⟨hs.1, List.pairwise_cons.2 ⟨fun z hz => ht.of_not (h2 z hz), hs.2.1⟩, fun p hp q hq => ?_⟩) ?_
      · rcases List.mem_cons.1 hq with rfl | hq
        · exact h1 p hp
        · exact hs.2.2 p hp q hq
      · have := SEq.append (SEq.refl C1) (SEq.swap ht (A := C2) (B := [x]) (fun p hp q hq => by simp at hq; subst hq; exact h2 p hp)).symm
        simpa using this
    rw [← h4]
    simpa using h3
  -- the general case
  have hh : hlf a b = (a + b) / 2 := hlf_ a b (by omega) (by omega) (by omega)
  obtain ⟨mid, hmid⟩ : ∃ mid, (a + b) / 2 = mid := ⟨_, rfl⟩
  have hmid1 : a < mid := by omega
  have hmid2 : mid < b := by omega
  obtain ⟨xs, hxs⟩ : ∃ xs, xs = pre ++ A ++ B ++ post := ⟨_, rfl⟩
  have hxl : (xs.length : Int) = pre.length + A.length + B.length + post.length := by rw [hxs]; exact hlen
  have getA : ∀ (c : Int) (i : Nat) (h : i < A.length), c = a + i → xs.getD c.toNat d = A[i] := fun c i h hc => by
    rw [hxs, List.append_assoc (pre ++ A)]; exact gA_ pre A (B ++ post) c i h (by omega)
  have getB : ∀ (c : Int) (i : Nat) (h : i < B.length), c = m + i → xs.getD c.toNat d = B[i] := fun c i h hc => by
    rw [hxs]; exact gA_ (pre ++ A) B post c i h (by simp; omega)
  have leA : ∀ c e : Int, a ≤ c → c ≤ e → e < m → le (xs.getD c.toNat d) (xs.getD e.toNat d) = true := fun c e h1 h2 h3 => by
    rw [getA c (c - a).toNat (by omega) (by omega), getA e (e - a).toNat (by omega) (by omega)]
    exact srt_get sA ht (by omega) (by omega)
  have leB : ∀ c e : Int, m ≤ c → c ≤ e → e < b → le (xs.getD c.toNat d) (xs.getD e.toNat d) = true := fun c e h1 h2 h3 => by
    rw [getB c (c - m).toNat (by omega) (by omega), getB e (e - m).toNat (by omega) (by omega)]
    exact srt_get sB ht (by omega) (by omega)
  -- what follows the search
  have follow : ∀ st : Int, a ≤ st → st ≤ m → m ≤ mid + m - st → mid + m - st ≤ b → (a < st → mid + m - st < b → le (xs.getD (st - 1).toNat d) (xs.getD (mid + m - st).toNat d) = true) → (st < m → m < mid + m - st → le (xs.getD st.toNat d) (xs.getD (mid + m - 1 - st).toNat d) = false) →
      Ev (fun k => if st < m then j6 k xs a m b mid st (wrap64 (mid + m - st)) (decide (m < wrap64 (mid + m - st))) else j6 k xs a m b mid st (wrap64 (mid + m - st)) false) (pre ++ isort le (A ++ B) ++ post) := by
    intro st q1 q2 q3 q4 q5 q6
    rw [wr_ (mid + m - st) (by omega) (by omega)]
    obtain ⟨en, hen⟩ : ∃ en, mid + m - st = en := ⟨_, rfl⟩
    rw [hen] at q3 q4 q5 q6 ⊢
    rw [show mid + m - 1 - st = en - 1 by omega] at q6
    obtain ⟨A1, A2, hA12, hA1l⟩ : ∃ A1 A2, A = A1 ++ A2 ∧ (A1.length : Int) = st - a := ⟨A.take (st - a).toNat, A.drop (st - a).toNat, (List.take_append_drop _ _).symm, by rw [List.length_take]; omega⟩
    obtain ⟨B1, B2, hB12, hB1l⟩ : ∃ B1 B2, B = B1 ++ B2 ∧ (B1.length : Int) = en - m := ⟨B.take (en - m).toNat, B.drop (en - m).toNat, (List.take_append_drop _ _).symm, by rw [List.length_take]; omega⟩
    have lA : (A.length : Int) = A1.length + A2.length := by rw [hA12]; simp
    have lB : (B.length : Int) = B1.length + B2.length := by rw [hB12]; simp
    have sA' := List.pairwise_append.1 (hA12 ▸ sA)
    have sB' := List.pairwise_append.1 (hB12 ▸ sB)
    -- each of A1 is at most each of B2
    have hAB : ∀ p ∈ A1, ∀ q ∈ B2, le p q = true := by
      intro p hp q hq
      obtain ⟨i, hi, rfl⟩ := List.getElem_of_mem hp
      obtain ⟨j, hj, rfl⟩ := List.getElem_of_mem hq
      have h1 := q5 (by omega) (by omega)
      have h2 := leA (a + i) (st - 1) (by omega) (by omega) (by omega)
      have h3 := leB en (en + j) (by omega) (by omega) (by omega)
      rw [getA (a + i) i (by omega) rfl] at h2
      rw [getB (en + j) (B1.length + j) (by omega) (by omega)] at h3
      have e1 : A[i]'(by omega) = A1[i] := by simp only [hA12]; exact List.getElem_append_left hi
      have e2 : B[B1.length + j]'(by omega) = B2[j] := by simp only [hB12]; rw [List.getElem_append_right (by omega)]; simp
      rw [e1] at h2; rw [e2] at h3
      exact ht.trans (ht.trans h2 h1) h3
    -- each of B1 is below each of A2
    have hBA : ∀ p ∈ A2, ∀ q ∈ B1, le p q = false := by
      intro p hp q hq
      obtain ⟨i, hi, rfl⟩ := List.getElem_of_mem hp
      obtain ⟨j, hj, rfl⟩ := List.getElem_of_mem hq
      have h1 := q6 (by omega) (by omega)
      have h2 := leA st (st + i) (by omega) (by omega) (by omega)
      have h3 := leB (m + j) (en - 1) (by omega) (by omega) (by omega)
      rw [getA (st + i) (A1.length + i) (by omega) (by omega)] at h2
      rw [getB (m + j) j (by omega) rfl] at h3
      have e1 : A[A1.length + i]'(by omega) = A2[i] := by simp only [hA12]; rw [List.getElem_append_right (by omega)]; simp
      have e2 : B[j]'(by omega) = B1[j] := by simp only [hB12]; exact List.getElem_append_left hj
      rw [e1] at h2; rw [e2] at h3
      cases h : le A2[i] B1[j]
      · rfl
      · rw [ht.trans (ht.trans h2 h) h3] at h1; cases h1
    -- the two halves, each put in order
    have hfin : isort le (A1 ++ B1) ++ isort le (A2 ++ B2) = isort le (A ++ B) := by
      refine isort_eq ht (List.pairwise_append.2 ⟨isort_srt ht _, isort_srt ht _, fun p hp q hq => ?_⟩) ?_
      · have hp := (isort_perm (le := le) _).mem_iff.1 hp
        have hq := (isort_perm (le := le) _).mem_iff.1 hq
        rcases List.mem_append.1 hp with hp | hp <;> rcases List.mem_append.1 hq with hq | hq
        · exact sA'.2.2 p hp q hq
        · exact hAB p hp q hq
        · exact ht.of_not (hBA q hq p hp)
        · exact sB'.2.2 p hp q hq
      · have h1 := SEq.append (isort_seq ht (A1 ++ B1)) (isort_seq ht (A2 ++ B2))
        have h2 := SEq.append (SEq.append (SEq.refl A1) (SEq.swap ht hBA).symm) (SEq.refl B2)
        refine h1.trans ?_
        rw [hA12, hB12]
        simpa using h2
    -- the last two calls
    have last : ∀ ys, ys = pre ++ A1 ++ B1 ++ A2 ++ B2 ++ post → Ev (fun k => j7 k ys a b mid st en) (pre ++ isort le (A ++ B) ++ post) := by
      intro ys hys
      have hyl : (ys.length : Int) = xs.length := by rw [hys, hxl]; simp; omega
      -- the second call
      have sec : ∀ zs, zs = pre ++ isort le (A1 ++ B1) ++ A2 ++ B2 ++ post → Ev (fun k => if mid < en then (if en < b then ((f k zs mid en b).bind fun u => some u) else some zs) else some zs) (pre ++ isort le (A ++ B) ++ post) := by
        intro zs hzs
        have hil : ((isort le (A1 ++ B1)).length : Int) = A1.length + B1.length := by rw [isort_len]; simp
        by_cases h1 : mid < en
        · by_cases h2 : en < b
          · simp only [if_pos h1, if_pos h2]
            have h3 := ih A2 B2 (pre ++ isort le (A1 ++ B1)) post mid en b (by omega) (by omega) (by omega) (by simp; omega) (by omega) (by omega) (by simp; omega) sA'.2.1 sB'.2.1
            have h4 : zs = (pre ++ isort le (A1 ++ B1)) ++ A2 ++ B2 ++ post := by rw [hzs]
            refine Ev.bind (a := pre ++ isort le (A ++ B) ++ post) ?_ (Ev.now _)
            rw [h4, ← hfin]
            simpa using h3
          · have hB2 : B2 = [] := eq_of_len0 (by omega)
            simp only [if_pos h1, if_neg h2]
            have h5 : zs = pre ++ isort le (A ++ B) ++ post := by
              rw [hzs, ← hfin, hB2, srt_isort ht (xs := A2 ++ []) (by simpa using sA'.2.1)]; simp
            rw [h5]; exact Ev.now _
        · have hA2 : A2 = [] := eq_of_len0 (by omega)
          simp only [if_neg h1]
          have h5 : zs = pre ++ isort le (A ++ B) ++ post := by
            rw [hzs, ← hfin, hA2, srt_isort ht (xs := [] ++ B2) (by simpa using sB'.2.1)]; simp
          rw [h5]; exact Ev.now _
      refine Ev.step (f := fun k => j8 k ys a b mid st en (decide (a < st ∧ st < mid))) (fun k => by
        rw [hF.ej7]
        by_cases h1 : a < st
        · rw [if_pos h1]; simp [h1]
        · rw [if_neg h1]; simp [h1]) ?_
      by_cases h1 : a < st ∧ st < mid
      · rw [decide_eq_true h1]
        refine Ev.step (fun k => by rw [hF.ej8, if_pos rfl]) ?_
        have h3 := ih A1 B1 pre (A2 ++ B2 ++ post) a st mid (by omega) (by omega) (by omega) ha (by omega) (by omega) (by simp; omega) sA'.1 sB'.1
        refine Ev.bind (a := pre ++ isort le (A1 ++ B1) ++ A2 ++ B2 ++ post) ?_ (sec _ rfl)
        rw [hys]
        simpa using h3
      · rw [decide_eq_false h1]
        refine Ev.step (fun k => by rw [hF.ej8, if_neg (by simp)]) (sec _ ?_)
        have : isort le (A1 ++ B1) = A1 ++ B1 := by
          refine srt_isort ht ?_
          by_cases h2 : a < st
          · have hB1 : B1 = [] := eq_of_len0 (by omega)
            rw [hB1]; simpa using sA'.1
          · have hA1 : A1 = [] := eq_of_len0 (by omega)
            rw [hA1]; simpa using sB'.1
        rw [hys, this]
        simp
    by_cases h1 : st < m ∧ m < en
    · have e1 : ∀ k, (if st < m then j6 k xs a m b mid st en (decide (m < en)) else j6 k xs a m b mid st en false) = j6 k xs a m b mid st en true := fun k => by rw [if_pos h1.1, decide_eq_true h1.2]
      refine Ev.congr e1 (Ev.step (fun k => by rw [hF.ej6, if_pos rfl, wr_ (m - st) (by omega) (by omega), wr_ (en - m) (by omega) (by omega)]) ?_)
      have h3 := ro_l0 hS hR (m := m) (A2.length + B1.length) A2 B1 (pre ++ A1) (B2 ++ post) (m - st) (en - m) (Nat.le_refl _) (by omega) (by omega) (by simp; omega) (by omega) (by omega) (by simp; omega)
      refine Ev.bind (a := pre ++ A1 ++ B1 ++ A2 ++ B2 ++ post) ?_ (last _ rfl)
      rw [hxs, hA12, hB12]
      simpa using h3
    · have e1 : ∀ k, (if st < m then j6 k xs a m b mid st en (decide (m < en)) else j6 k xs a m b mid st en false) = j6 k xs a m b mid st en false := fun k => by
        by_cases h2 : st < m
        · rw [if_pos h2, decide_eq_false (fun h3 => h1 ⟨h2, h3⟩)]
        · rw [if_neg h2]
      refine Ev.congr e1 (Ev.step (fun k => by rw [hF.ej6, if_neg (by simp)]) (last _ ?_))
      rw [hxs, hA12, hB12]
      by_cases h2 : st < m
      · have hB1 : B1 = [] := eq_of_len0 (by omega)
        rw [hB1]; simp
      · have hA2 : A2 = [] := eq_of_len0 (by omega)
        rw [hA2]; simp
  rw [← hxs]
  have hp : ∀ s1 s2 : Int, a ≤ s1 → s2 ≤ m → m ≤ mid + m - s2 → mid + m - s1 ≤ b → s1 ≤ s2 → (s1 = a ∨ mid + m - s1 = b) → (s2 = m ∨ mid + m - s2 = m) → Ev (fun k => l4 k xs a m b mid (mid + m) s1 s2 (mid + m - 1)) (pre ++ isort le (A ++ B) ++ post) := by
    intro s1 s2 q1 q2 q3 q4 q5 q6 q7
    refine sy_l4 hcmp hF (by omega) (by omega) (by omega) (fun c h1 h2 => by omega) (fun c e h1 h2 h3 h4 => ?_) (fun st h1 h2 h3 h4 => ?_) (s2 - s1).toNat s1 s2 (Int.le_refl _) q5 (Int.le_refl _) (Nat.le_refl _) (fun h => by omega) (fun h => by omega)
    · have g1 := leA c e (by omega) h2 (by omega)
      have g2 := leB (mid + m - 1 - e) (mid + m - 1 - c) (by omega) (by omega) (by omega)
      cases h : le (xs.getD e.toNat d) (xs.getD (mid + m - 1 - e).toNat d)
      · rfl
      · rw [ht.trans (ht.trans g1 h) g2] at h4; cases h4
    · refine follow st (by omega) (by omega) (by omega) (by omega) (fun h5 h6 => ?_) (fun h5 h6 => ?_)
      · have := h3 (by omega)
        rw [show mid + m - 1 - (st - 1) = mid + m - st by omega] at this
        exact this
      · exact h4 (by omega)
  by_cases hmm : m > mid
  · refine Ev.step (f := fun k => j4 k xs a m b mid (mid + m) (mid + m - b) mid) (fun k => by
      rw [hF.ef, wr_ (m - a) (by omega) (by omega), if_neg (by omega), wr_ (b - m) (by omega) (by omega), if_neg (by omega), hh, hmid, if_pos hmm, wr_ (mid + m) (by omega) (by omega), wr_ (mid + m - b) (by omega) (by omega)]) ?_
    refine Ev.step (f := fun k => l4 k xs a m b mid (mid + m) (mid + m - b) mid (mid + m - 1)) (fun k => by
      rw [hF.ej4, wr_ (mid + m - 1) (by omega) (by omega)]) ?_
    exact hp _ _ (by omega) (by omega) (by omega) (by omega) (by omega) (by omega) (by omega)
  · refine Ev.step (f := fun k => j4 k xs a m b mid (mid + m) a m) (fun k => by
      rw [hF.ef, wr_ (m - a) (by omega) (by omega), if_neg (by omega), wr_ (b - m) (by omega) (by omega), if_neg (by omega), hh, hmid, if_neg hmm, wr_ (mid + m) (by omega) (by omega)]) ?_
    refine Ev.step (f := fun k => l4 k xs a m b mid (mid + m) a m (mid + m - 1)) (fun k => by
      rw [hF.ej4, wr_ (mid + m - 1) (by omega) (by omega)]) ?_
    exact hp _ _ (by omega) (by omega) (by omega) (by omega) (by omega) (by omega) (by omega)
end SortD
section SortE
variable {α : Type} {d : α} {le : α → α → Bool} {cmp : α → α → Option Int}
variable {i0 : Nat → List α → Int → Int → Int → Option (List α)} {i1 : Nat → List α → Int → Int → Int → Int → Option (List α)} {s0 : Nat → List α → Int → Int → Int → Int → Option (List α)} {r0 : Nat → List α → Int → Int → Int → Option (List α)} {l0 : Nat → List α → Int → Int → Int → Option (List α)} {l1 : Nat → List α → Int → Int → Option (List α)} {l2 : Nat → List α → Int → Int → Int → Option (List α)} {l3 : Nat → List α → Int → Int → Option (List α)}
    {j4 : Nat → List α → Int → Int → Int → Int → Int → Int → Int → Option (List α)} {l4 : Nat → List α → Int → Int → Int → Int → Int → Int → Int → Int → Option (List α)} {j6 : Nat → List α → Int → Int → Int → Int → Int → Int → Bool → Option (List α)} {j7 : Nat → List α → Int → Int → Int → Int → Int → Option (List α)} {j8 : Nat → List α → Int → Int → Int → Int → Int → Bool → Option (List α)}
    {f : Nat → List α → Int → Int → Int → Option (List α)}
structure StF (i0 : Nat → List α → Int → Int → Int → Option (List α)) (f : Nat → List α → Int → Int → Int → Option (List α)) (t0 : Nat → List α → Int → Int → Int → Int → Option (List α)) (t1 : Nat → List α → Int → Int → Option (List α)) (t2 : Nat → List α → Int → Int → Int → Int → Option (List α)) : Prop where
  e0 : ∀ k xs n s a b, t0 (k + 1) xs n s a b = if b ≤ n then ((i0 k xs a b (wrap64 (a + 1))).bind fun t => t0 k t n s b (wrap64 (b + s))) else ((i0 k xs a n (wrap64 (a + 1))).bind fun t => t1 k t n s)
  e1 : ∀ k xs n s, t1 (k + 1) xs n s = if s < n then t2 k xs n s 0 (wrap64 (2 * s)) else some xs
  e2 : ∀ k xs n s a b, t2 (k + 1) xs n s a b = if b ≤ n then ((f k xs a (wrap64 (a + s)) b).bind fun t => t2 k t n s b (wrap64 (b + wrap64 (2 * s)))) else (if wrap64 (a + s) < n then ((f k xs a (wrap64 (a + s)) n).bind fun t => t1 k t n (wrap64 (s * 2))) else t1 k xs n (wrap64 (s * 2)))
variable {t0 : Nat → List α → Int → Int → Int → Int → Option (List α)} {t1 : Nat → List α → Int → Int → Option (List α)} {t2 : Nat → List α → Int → Int → Int → Int → Option (List α)}
/-- Blocks of s elements, the last one perhaps shorter, each in order. -/
inductive Blk (le : α → α → Bool) (s : Nat) : List α → Prop
  | last {xs : List α} : xs.length ≤ s → Srt le xs → Blk le s xs
  | more {B R : List α} : B.length = s → Srt le B → Blk le s R → Blk le s (B ++ R)
theorem Blk.srt {s : Nat} : ∀ {xs : List α}, Blk le s xs → xs.length ≤ s → Srt le xs
  | _, .last _ h, _ => h
  | _, .more (B := B) (R := R) hB h hR, hl => by
    have : R = [] := eq_of_len0 (by simp at hl; omega)
    rw [this]; simpa using h
theorem Blk.split {s : Nat} {xs : List α} (h : Blk le s xs) (hl : s < xs.length) : ∃ B R, xs = B ++ R ∧ B.length = s ∧ Srt le B ∧ Blk le s R := by
  cases h with
  | last h1 h2 => omega
  | more h1 h2 h3 => exact ⟨_, _, rfl, h1, h2, h3⟩
/-- The rounds of merges. -/
theorem stl_l2 (ht : TP le) (hcmp : Cmp le cmp) (hS : SwF d s0) (hR : RoF s0 r0) (hF : SyF d cmp r0 l0 l1 l2 l3 j4 l4 j6 j7 j8 f) (hT : StF i0 f t0 t1 t2) {n s : Nat} (hs : 0 < s) (hn : n < 1099511627776) (hs2 : s < 1099511627776) {r : List α} {zs : List α}
    (hk : ∀ ys : List α, ys.length = n → SEq le ys zs → Blk le (2 * s) ys → Ev (fun k => t1 k ys n ((s : Int) * 2)) r) : ∀ (c : Nat) (pre R : List α) (a b : Int), R.length ≤ c → a = pre.length → b = a + 2 * s → (pre ++ R).length = n → SEq le (pre ++ R) zs → Blk le s R →
      (∀ R', Blk le (2 * s) R' → Blk le (2 * s) (pre ++ R')) → Ev (fun k => t2 k (pre ++ R) n s a b) r := by
  intro c
  induction c with
  | zero =>
    intro pre R a b hc ha hb hl hz hB hP
    have hR0 : R = [] := eq_of_len0 (by omega)
    subst hR0
    simp at hl
    refine Ev.step (f := fun k => t1 k (pre ++ []) n ((s : Int) * 2)) (fun k => by
      rw [hT.e2, if_neg (by omega), wr_ (a + s) (by omega) (by omega), if_neg (by omega), wr_ ((s : Int) * 2) (by omega) (by omega)]) ?_
    exact hk _ (by simpa using hl) hz (hP [] (.last (by simp) .nil))
  | succ c ih =>
    intro pre R a b hc ha hb hl hz hB hP
    have hl2 : pre.length + R.length = n := by simpa using hl
    by_cases h1 : b ≤ n
    · obtain ⟨B1, R1, rfl, hB1, sB1, hR1⟩ := hB.split (by omega)
      obtain ⟨B2, R2, rfl, hB2, sB2, hR2⟩ : ∃ B R, R1 = B ++ R ∧ B.length = s ∧ Srt le B ∧ Blk le s R := by
        simp at hl2
        by_cases h2 : s < R1.length
        · exact hR1.split h2
        · exact ⟨R1, [], by simp, by omega, hR1.srt (by omega), .last (by simp) .nil⟩
      simp at hl2 hc
      refine Ev.step (f := fun k => (f k (pre ++ (B1 ++ (B2 ++ R2))) a (a + s) b).bind fun t => t2 k t n s b (b + 2 * s)) (fun k => by
        rw [hT.e2, if_pos h1, wr_ (a + s) (by omega) (by omega), wr_ (2 * (s : Int)) (by omega) (by omega), wr_ (b + 2 * s) (by omega) (by omega)]) ?_
      have h3 := sy_f ht hcmp hS hR hF (B1.length + B2.length) B1 B2 pre R2 a (a + s) b (Nat.le_refl _) (by omega) (by omega) ha (by omega) (by omega) (by simp; omega) sB1 sB2
      refine Ev.bind (a := pre ++ isort le (B1 ++ B2) ++ R2) (by simpa using h3) ?_
      have hil : (isort le (B1 ++ B2)).length = 2 * s := by rw [isort_len]; simp; omega
      refine ih (pre ++ isort le (B1 ++ B2)) R2 b (b + 2 * s) (by omega) (by simp; omega) rfl (by simp; omega) (SEq.trans ?_ hz) hR2 (fun R' h4 => ?_)
      · have := SEq.append (SEq.append (SEq.refl pre) (isort_seq ht (B1 ++ B2))) (SEq.refl R2)
        simpa using this
      · have := hP (isort le (B1 ++ B2) ++ R') (.more hil (isort_srt ht _) h4)
        simpa using this
    · by_cases h2 : a + s < n
      · obtain ⟨B1, R1, rfl, hB1, sB1, hR1⟩ := hB.split (by omega)
        simp at hl2
        have sR1 := hR1.srt (by omega)
        refine Ev.step (f := fun k => (f k (pre ++ (B1 ++ R1)) a (a + s) n).bind fun t => t1 k t n ((s : Int) * 2)) (fun k => by
          rw [hT.e2, if_neg h1, wr_ (a + s) (by omega) (by omega), if_pos h2, wr_ ((s : Int) * 2) (by omega) (by omega)]) ?_
        have h3 := sy_f ht hcmp hS hR hF (B1.length + R1.length) B1 R1 pre [] a (a + s) n (Nat.le_refl _) (by omega) (by omega) ha (by omega) (by omega) (by simp; omega) sB1 sR1
        refine Ev.bind (a := pre ++ isort le (B1 ++ R1)) (by simpa using h3) ?_
        refine hk _ (by simp [isort_len]; omega) (SEq.trans ?_ hz) (hP _ (.last (by rw [isort_len]; simp; omega) (isort_srt ht _)))
        exact SEq.append (SEq.refl pre) (isort_seq ht (B1 ++ R1))
      · refine Ev.step (f := fun k => t1 k (pre ++ R) n ((s : Int) * 2)) (fun k => by
          rw [hT.e2, if_neg h1, wr_ (a + s) (by omega) (by omega), if_neg h2, wr_ ((s : Int) * 2) (by omega) (by omega)]) ?_
        exact hk _ hl hz (hP R (.last (by omega) (hB.srt (by omega))))
theorem stl_l1 (ht : TP le) (hcmp : Cmp le cmp) (hS : SwF d s0) (hR : RoF s0 r0) (hF : SyF d cmp r0 l0 l1 l2 l3 j4 l4 j6 j7 j8 f) (hT : StF i0 f t0 t1 t2) {n : Nat} (hn : n < 1099511627776) {zs : List α} : ∀ (c s : Nat) (ys : List α), 0 < s → s < 1099511627776 * 2 → n - s ≤ c → ys.length = n → SEq le ys zs → Blk le s ys →
    Ev (fun k => t1 k ys n (s : Int)) (isort le zs) := by
  intro c
  induction c with
  | zero =>
    intro s ys h0 h1 h2 h3 h4 h5
    refine Ev.step (f := fun _ => some (isort le zs)) (fun k => ?_) (Ev.now _)
    rw [hT.e1, if_neg (by omega), isort_eq ht (h5.srt (by omega)) h4]
  | succ c ih =>
    intro s ys h0 h1 h2 h3 h4 h5
    by_cases h6 : s < n
    · refine Ev.step (f := fun k => t2 k ys n s 0 (2 * s)) (fun k => by rw [hT.e1, if_pos (by omega), wr_ (2 * (s : Int)) (by omega) (by omega)]) ?_
      have := stl_l2 ht hcmp hS hR hF hT (n := n) (s := s) h0 hn (by omega) (r := isort le zs) (zs := zs) (fun ys' g1 g2 g3 => ?_) ys.length [] ys 0 (2 * s) (Nat.le_refl _) (by simp) (by omega) (by simpa using h3) (by simpa using h4) h5 (fun R' h => by simpa using h)
      · simpa using this
      · have := ih (2 * s) ys' (by omega) (by omega) (by omega) g1 g2 g3
        rw [show ((s : Int) * 2) = ((2 * s : Nat) : Int) by omega]
        exact this
    · refine Ev.step (f := fun _ => some (isort le zs)) (fun k => ?_) (Ev.now _)
      rw [hT.e1, if_neg (by omega), isort_eq ht (h5.srt (by omega)) h4]
theorem stl_l0 (ht : TP le) (hcmp : Cmp le cmp) (hI : InsF d cmp i0 i1) (hT : StF i0 f t0 t1 t2) {n s : Nat} (hs : 0 < s) (hn : n < 1099511627776) (hs2 : s < 1099511627776) {r : List α} {zs : List α}
    (hk : ∀ ys : List α, ys.length = n → SEq le ys zs → Blk le s ys → Ev (fun k => t1 k ys n s) r) : ∀ (c : Nat) (pre R : List α) (a b : Int), R.length ≤ c → a = pre.length → b = a + s → (pre ++ R).length = n → SEq le (pre ++ R) zs →
      (∀ R', Blk le s R' → Blk le s (pre ++ R')) → Ev (fun k => t0 k (pre ++ R) n s a b) r := by
  intro c
  induction c with
  | zero =>
    intro pre R a b hc ha hb hl hz hP
    have hR0 : R = [] := eq_of_len0 (by omega)
    subst hR0
    simp at hl
    refine Ev.step (f := fun k => (i0 k (pre ++ []) a n (wrap64 (a + 1))).bind fun t => t1 k t n s) (fun k => by rw [hT.e0, if_neg (by omega)]) ?_
    have h3 := ins_f ht hcmp hI (pre := pre) (S := []) (post := []) (a := a) (b := n) ha (by simp; omega) (by simp; omega)
    refine Ev.bind (a := pre ++ []) (by simpa [isort] using h3) (hk _ (by simpa using hl) hz (hP [] (.last (by simp) .nil)))
  | succ c ih =>
    intro pre R a b hc ha hb hl hz hP
    have hl2 : pre.length + R.length = n := by simpa using hl
    by_cases h1 : b ≤ n
    · obtain ⟨B, R2, rfl, hB⟩ : ∃ B R2, R = B ++ R2 ∧ B.length = s := ⟨R.take s, R.drop s, (List.take_append_drop _ _).symm, by rw [List.length_take]; omega⟩
      simp at hl2 hc
      refine Ev.step (f := fun k => (i0 k (pre ++ (B ++ R2)) a b (wrap64 (a + 1))).bind fun t => t0 k t n s b (b + s)) (fun k => by rw [hT.e0, if_pos h1, wr_ (b + s) (by omega) (by omega)]) ?_
      have h3 := ins_f ht hcmp hI (pre := pre) (S := B) (post := R2) (a := a) (b := b) ha (by omega) (by simp; omega)
      refine Ev.bind (a := pre ++ isort le B ++ R2) (by simpa using h3) ?_
      have hil : (isort le B).length = s := by rw [isort_len]; omega
      refine ih (pre ++ isort le B) R2 b (b + s) (by omega) (by simp; omega) rfl (by simp; omega) (SEq.trans ?_ hz) (fun R' h4 => ?_)
      · have := SEq.append (SEq.append (SEq.refl pre) (isort_seq ht B)) (SEq.refl R2)
        simpa using this
      · have := hP (isort le B ++ R') (.more hil (isort_srt ht _) h4)
        simpa using this
    · refine Ev.step (f := fun k => (i0 k (pre ++ R) a n (wrap64 (a + 1))).bind fun t => t1 k t n s) (fun k => by rw [hT.e0, if_neg h1]) ?_
      have h3 := ins_f ht hcmp hI (pre := pre) (S := R) (post := []) (a := a) (b := n) ha (by omega) (by simp; omega)
      refine Ev.bind (a := pre ++ isort le R) (by simpa using h3) ?_
      refine hk _ (by simp [isort_len]; omega) (SEq.trans ?_ hz) (hP _ (.last (by rw [isort_len]; omega) (isort_srt ht _)))
      exact SEq.append (SEq.refl pre) (isort_seq ht R)
/-- The stable sort. -/
theorem stl_f (ht : TP le) (hcmp : Cmp le cmp) (hI : InsF d cmp i0 i1) (hS : SwF d s0) (hR : RoF s0 r0) (hF : SyF d cmp r0 l0 l1 l2 l3 j4 l4 j6 j7 j8 f) (hT : StF i0 f t0 t1 t2) (xs : List α) (hl : xs.length < 1099511627776) : Ev (fun k => t0 k xs (xs.length : Int) 20 0 20) (isort le xs) := by
  have := stl_l0 ht hcmp hI hT (n := xs.length) (s := 20) (by omega) hl (by omega) (r := isort le xs) (zs := xs) (fun ys g1 g2 g3 => stl_l1 ht hcmp hS hR hF hT hl xs.length 20 ys (by omega) (by omega) (by omega) g1 g2 g3) xs.length [] xs 0 20 (Nat.le_refl _) (by simp) (by omega) (by simp) (SEq.refl _) (fun R' h => by simpa using h)
  simpa using this
end SortE

/-! ### the insertion sort over elements of a kind, by numbers -/
section Gen
variable {α : Type} (d : α) (cmp : α → α → Option Int)
mutual
def gI0 : Nat → List α → Int → Int → Int → Option (List α)
  | 0, _, _, _, _ => none
  | k + 1, xs, a, b, i => if i < b then gI1 k xs a b i i else some xs
def gI1 : Nat → List α → Int → Int → Int → Int → Option (List α)
  | 0, _, _, _, _, _ => none
  | k + 1, xs, a, b, i, j => if j > a then (if 0 ≤ j then (if j < (xs.length : Int) then (if 0 ≤ (wrap64 (j - 1)) then (if (wrap64 (j - 1)) < (xs.length : Int) then
      ((cmp (xs.getD j.toNat d) (xs.getD (wrap64 (j - 1)).toNat d)).bind fun t => (if t < 0 then (gI1 k ((xs.set j.toNat (xs.getD (wrap64 (j - 1)).toNat d)).set (wrap64 (j - 1)).toNat (xs.getD j.toNat d)) a b i (wrap64 (j - 1))) else (gI0 k xs a b (wrap64 (i + 1))))) else none) else none) else none) else none) else (gI0 k xs a b (wrap64 (i + 1)))
end
theorem gI_F : InsF d cmp (gI0 d cmp) (gI1 d cmp) := ⟨fun _ _ _ _ _ => by rw [gI0], fun _ _ _ _ _ _ => by rw [gI1]⟩
end Gen
abbrev Sub (n : Int) := {x : Int // 0 ≤ x ∧ x < n}
abbrev vals {n : Int} (xs : List (Sub n)) : List Int := xs.map Subtype.val
theorem rd_vals {n : Int} (d : Sub n) (xs : List (Sub n)) (j : Int) (h0 : 0 ≤ j) (h : j < (xs.length : Int)) : rd (vals xs) j = (xs.getD j.toNat d).1 := by
  have : j.toNat < xs.length := by omega
  simp [rd, List.getD_eq_getElem?_getD, this]
theorem set_vals {n : Int} (xs : List (Sub n)) (j : Nat) (v : Sub n) : (vals xs).set j v.1 = vals (xs.set j v) := by simp [List.map_set]
theorem ins_vals {n : Int} (le : Int → Int → Bool) (x : Sub n) : ∀ xs : List (Sub n), (ins (fun a b : Sub n => le a.1 b.1) x xs).map Subtype.val = ins le x.1 (xs.map Subtype.val)
  | [] => rfl
  | y :: ys => by
    simp only [ins, List.map_cons]
    split
    · rfl
    · rw [List.map_cons, ins_vals le x ys]
theorem isort_vals {n : Int} (le : Int → Int → Bool) : ∀ xs : List (Sub n), (isort (fun a b : Sub n => le a.1 b.1) xs).map Subtype.val = isort le (xs.map Subtype.val)
  | [] => rfl
  | y :: ys => by simp only [isort, List.map_cons]; rw [ins_vals, isort_vals le ys]
theorem ite_map {c : Prop} [Decidable c] {β γ : Type} {a b : Option β} {a' b' : Option γ} (f : γ → β) (h1 : c → a = a'.map f) (h2 : ¬c → b = b'.map f) : (if c then a else b) = (if c then a' else b').map f := by
  split
  · exact h1 ‹_›
  · exact h2 ‹_›

/-! ### which allocations of a fund are open, in order -/
def leU (al : List S46) (a b : Int) : Bool := decide ((rd_T46 al a).f2 ≤ (rd_T46 al b).f2)
theorem leU_tp (al : List S46) : TP (leU al) := ⟨fun a b => by simp only [leU, decide_eq_true_eq]; omega, fun {a b c} h1 h2 => by simp only [leU, decide_eq_true_eq] at *; omega⟩
abbrev cmpS (al : List S46) (x y : Sub al.length) : Option Int := @draw_open_1.f ⟨al⟩ x.1 y.1
theorem compare_eq (a b : Int) : cmp_Compare_int.f a b = some (if a < b then -1 else if a > b then 1 else 0) := by
  simp only [cmp_Compare_int.f, cmp_isNaN_int.f, Option.bind_some, bne_self_eq_false, Bool.false_eq_true, if_false]
  by_cases h : a < b
  · simp [h]
  · by_cases h2 : b < a <;> simp [h, h2]
theorem cmpS_ok (al : List S46) : Cmp (fun x y : Sub al.length => leU al x.1 y.1) (cmpS al) := by
  intro x y
  refine ⟨_, by
    show @draw_open_1.f ⟨al⟩ x.1 y.1 = _
    unfold draw_open_1.f
    rw [if_pos ⟨⟨x.2.1, x.2.2⟩, y.2.1, y.2.2⟩, compare_eq], ?_⟩
  simp only [leU, decide_eq_false_iff_not]
  split
  · omega
  · split <;> omega
theorem gI_map (al : List S46) (d : Sub al.length) : ∀ k, (∀ (xs : List (Sub al.length)) a b i, @slices_insertionSortCmpFunc_int__draw_open_1.l0 ⟨al⟩ k (vals xs) a b i = (gI0 d (cmpS al) k xs a b i).map vals) ∧ (∀ (xs : List (Sub al.length)) a b i j, @slices_insertionSortCmpFunc_int__draw_open_1.l1 ⟨al⟩ k (vals xs) a b i j = (gI1 d (cmpS al) k xs a b i j).map vals)
  | 0 => ⟨fun _ _ _ _ => by simp [slices_insertionSortCmpFunc_int__draw_open_1.l0, gI0], fun _ _ _ _ _ => by simp [slices_insertionSortCmpFunc_int__draw_open_1.l1, gI1]⟩
  | k + 1 => by
    obtain ⟨h0, h1⟩ := gI_map al d k
    constructor
    · intro xs a b i
      simp only [slices_insertionSortCmpFunc_int__draw_open_1.l0, gI0]
      split
      · exact h1 _ _ _ _ _
      · rfl
    · intro xs a b i j
      simp only [slices_insertionSortCmpFunc_int__draw_open_1.l1, gI1, List.length_map]
      refine ite_map _ (fun c1 => ?_) (fun _ => h0 _ _ _ _)
      refine ite_map _ (fun c2 => ?_) (fun _ => rfl)
      refine ite_map _ (fun c3 => ?_) (fun _ => rfl)
      refine ite_map _ (fun c4 => ?_) (fun _ => rfl)
      refine ite_map _ (fun c5 => ?_) (fun _ => rfl)
      rw [rd_vals d xs j c2 c3, rd_vals d xs _ c4 c5]
      show Option.bind (cmpS al (xs.getD j.toNat d) (xs.getD (wrap64 (j - 1)).toNat d)) _ = _
      obtain ⟨t, ht, _⟩ := cmpS_ok al (xs.getD j.toNat d) (xs.getD (wrap64 (j - 1)).toNat d)
      rw [ht, Option.bind_some, Option.bind_some]
      split
      · rw [set_vals, set_vals]; exact h1 _ _ _ _ _
      · exact h0 _ _ _ _
theorem sort_f (al : List S46) (xs : List Int) (hl : xs.length < 20) (hx : ∀ x ∈ xs, 0 ≤ x ∧ x < (al.length : Int)) : Ev (fun k => draw_open.sort al k xs) (isort (leU al) xs) := by
  refine Ev.congr (f := fun k => @slices_insertionSortCmpFunc_int__draw_open_1.l0 ⟨al⟩ k xs 0 xs.length (wrap64 (0 + 1))) (fun k => by show @slices_SortStableFunc_int__draw_open_1.f ⟨al⟩ k xs = _; unfold slices_SortStableFunc_int__draw_open_1.f; rw [if_pos (by omega)]; rfl) ?_
  cases xs with
  | nil => exact ⟨1, fun k hk => by obtain ⟨k, rfl⟩ : ∃ m, k = m + 1 := ⟨k - 1, by omega⟩; simp [slices_insertionSortCmpFunc_int__draw_open_1.l0, isort, wrap64]⟩
  | cons x r =>
    have hx0 := hx x (List.mem_cons_self)
    let d : Sub al.length := ⟨x, hx0⟩
    obtain ⟨ys, hys⟩ : ∃ ys : List (Sub al.length), vals ys = x :: r := ⟨(x :: r).attach.map (fun y => ⟨y.1, hx y.1 y.2⟩), by simp [vals, List.map_map, Function.comp_def]⟩
    rw [← hys]
    have hlen : (vals ys).length = ys.length := by simp
    have hl2 : ys.length < 20 := by rw [← hlen, hys]; exact hl
    rw [hlen]
    have h := ins_f (le := fun x y : Sub al.length => leU al x.1 y.1) (d := d) (cmp := cmpS al) ⟨fun a b => (leU_tp al).total a.1 b.1, fun h1 h2 => (leU_tp al).trans h1 h2⟩ (cmpS_ok al) (gI_F d (cmpS al)) (pre := []) (S := ys) (post := []) (a := 0) (b := ys.length) rfl (by simp) (by simp; omega)
    simp only [List.nil_append, List.append_nil] at h
    obtain ⟨K, hK⟩ := h
    exact ⟨K, fun k hk => by
      show @slices_insertionSortCmpFunc_int__draw_open_1.l0 ⟨al⟩ k (vals ys) 0 ys.length (wrap64 (0 + 1)) = _
      have h3 := hK k hk
      dsimp only at h3
      rw [(gI_map al d k).1, h3, Option.map_some, ← isort_vals]⟩
def opn (s : S46) (f now : Int) : Bool := decide (s.f0 = f) && (decide (s.f1 ≤ now) && (decide (now < s.f2) && decide (s.f3 > 0)))
def candF (al : List S46) (f now : Int) (i m : Nat) : List Int := ((List.range' i m).filter (fun j : Nat => opn (rd_T46 al (j : Int)) f now)).map Int.ofNat
def openL (al : List S46) (f now : Int) : List Int := isort (leU al) (candF al f now 0 al.length)
theorem candF_succ (al : List S46) (f now : Int) (i m : Nat) : candF al f now i (m + 1) = if opn (rd_T46 al (i : Int)) f now = true then (i : Int) :: candF al f now (i + 1) m else candF al f now (i + 1) m := by
  unfold candF
  rw [List.range'_succ, List.filter_cons]
  split <;> simp
theorem candF_mem (al : List S46) (f now : Int) (i m : Nat) (x : Int) : x ∈ candF al f now i m ↔ (i : Int) ≤ x ∧ x < (i + m : Nat) ∧ opn (rd_T46 al x) f now = true := by
  unfold candF
  simp only [List.mem_map, List.mem_filter, List.mem_range'_1]
  constructor
  · rintro ⟨j, ⟨h1, h2⟩, rfl⟩
    exact ⟨by simp; omega, by simp; omega, h2⟩
  · rintro ⟨h1, h2, h3⟩
    have e : ((x.toNat : Nat) : Int) = x := by omega
    exact ⟨x.toNat, ⟨by omega, by rw [e]; exact h3⟩, e⟩
theorem candF_len (al : List S46) (f now : Int) (i m : Nat) : (candF al f now i m).length ≤ m := by
  unfold candF
  rw [List.length_map]
  exact Nat.le_trans (List.length_filter_le _ _) (by simp)
theorem candF_asc (al : List S46) (f now : Int) (i m : Nat) : (candF al f now i m).Pairwise (· < ·) := by
  unfold candF
  rw [List.pairwise_map]
  refine List.Pairwise.imp ?_ (List.Pairwise.filter _ (List.pairwise_lt_range' (s := i) (n := m)))
  intro a b h
  simp only [Int.ofNat_eq_natCast]; omega
theorem openL_len (al : List S46) (f now : Int) : (openL al f now).length ≤ al.length := by
  unfold openL
  rw [isort_len]
  exact candF_len _ _ _ _ _
theorem openL_mem (al : List S46) (f now : Int) (x : Int) : x ∈ openL al f now ↔ 0 ≤ x ∧ x < (al.length : Int) ∧ opn (rd_T46 al x) f now = true := by
  unfold openL
  rw [(isort_perm _).mem_iff, candF_mem]
  simp
def lexU (al : List S46) (a b : Int) : Prop := (rd_T46 al a).f2 < (rd_T46 al b).f2 ∨ ((rd_T46 al a).f2 = (rd_T46 al b).f2 ∧ a < b)
theorem openL_lex (al : List S46) (f now : Int) : (openL al f now).Pairwise (lexU al) := by
  have h1 : (openL al f now).Pairwise (fun a b => leU al a b = true) := isort_srt (leU_tp al) _
  have h2 : SEq (leU al) (openL al f now) (candF al f now 0 al.length) := isort_seq (leU_tp al) _
  rw [List.pairwise_iff_forall_sublist] at h1 ⊢
  intro a b hab
  have h3 : (rd_T46 al a).f2 ≤ (rd_T46 al b).f2 := by simpa [leU] using h1 hab
  by_cases h4 : (rd_T46 al a).f2 = (rd_T46 al b).f2
  · right
    refine ⟨h4, ?_⟩
    have h5 := hab.filter (eqv (leU al) a)
    rw [h2 a] at h5
    have h6 : List.filter (eqv (leU al) a) [a, b] = [a, b] := by
      rw [List.filter_eq_self]
      intro c hc
      simp only [List.mem_cons, List.not_mem_nil, or_false] at hc
      rcases hc with rfl | rfl <;> simp [eqv, leU] <;> omega
    rw [h6] at h5
    exact (List.pairwise_iff_forall_sublist.1 (candF_asc al f now 0 al.length)) (h5.trans List.filter_sublist)
  · left; omega
theorem opn_eq (s : S46) (f now : Int) : opn s f now = true ↔ s.f0 = f ∧ s.f1 ≤ now ∧ now < s.f2 ∧ s.f3 > 0 := by simp [opn]
theorem open_l0 (al : List S46) (hl : al.length < 20) (f now : Int) : ∀ (m i : Nat) (acc : List Int), i + m = al.length → acc.length + m < 20 → (∀ x ∈ acc, 0 ≤ x ∧ x < (al.length : Int)) →
    Ev (fun k => draw_open.l0 k f now acc al (al.length : Int) (i : Int)) (isort (leU al) (acc ++ candF al f now i m))
  | 0, i, acc, him, hacc, hx => by
    refine Ev.step (f := fun k => (draw_open.sort al k acc).bind fun t => some t) (fun k => by simp only [draw_open.l0]; rw [if_neg (by omega)]) ?_
    have : candF al f now i 0 = [] := by simp [candF]
    rw [this, List.append_nil]
    exact Ev.bind (sort_f al acc (by omega) hx) (Ev.now _)
  | m + 1, i, acc, him, hacc, hx => by
    rw [candF_succ]
    have hw : wrap64 ((i : Int) + 1) = ((i + 1 : Nat) : Int) := by unfold wrap64; omega
    by_cases h : opn (rd_T46 al (i : Int)) f now = true
    · rw [if_pos h]
      obtain ⟨h1, h2, h3, h4⟩ := (opn_eq _ _ _).1 h
      have := open_l0 al hl f now m (i + 1) (acc ++ [(i : Int)]) (by omega) (by simp; omega) (by
        intro x hx'
        rcases List.mem_append.1 hx' with h' | h'
        · exact hx x h'
        · obtain rfl : x = (i : Int) := by simpa using h'
          omega)
      rw [List.append_assoc] at this
      refine Ev.step (fun k => ?_) this
      simp only [draw_open.l0]
      rw [if_pos (by omega), if_pos (by omega), if_pos (by omega), if_pos h1, if_pos h2, if_pos h3, if_pos h4, if_pos (by omega), hw]
    · rw [if_neg h]
      have := open_l0 al hl f now m (i + 1) acc (by omega) (by omega) hx
      refine Ev.step (fun k => ?_) this
      simp only [draw_open.l0]
      rw [if_pos (by omega), if_pos (by omega), if_pos (by omega), hw]
      by_cases h1 : (rd_T46 al (i : Int)).f0 = f
      · rw [if_pos h1]
        by_cases h2 : (rd_T46 al (i : Int)).f1 ≤ now
        · rw [if_pos h2]
          by_cases h3 : now < (rd_T46 al (i : Int)).f2
          · rw [if_pos h3]
            by_cases h4 : (rd_T46 al (i : Int)).f3 > 0
            · exact absurd ((opn_eq _ _ _).2 ⟨h1, h2, h3, h4⟩) h
            · rw [if_neg h4]
          · rw [if_neg h3]
        · rw [if_neg h2]
      · rw [if_neg h1]
theorem open_f (al : List S46) (hl : al.length < 20) (f now : Int) : Ev (fun k => draw_open.f k al f now) (openL al f now) := by
  have := open_l0 al hl f now al.length 0 [] (by omega) (by simp; omega) (by simp)
  simpa [openL, draw_open.f] using this

theorem few_eq (l : List S62) (m : List S46) : prebendlaw11_few.f l m = some (l.take 12, m.take 16) := by
  unfold prebendlaw11_few.f
  by_cases h : (l.length : Int) > 12
  · by_cases h2 : (m.length : Int) > 16
    · rw [if_pos h, if_pos (by omega)]; simp only [Option.bind_some]; rw [if_pos h2, if_pos (by omega)]
    · rw [if_pos h, if_pos (by omega)]; simp only [Option.bind_some]; rw [if_neg h2, List.take_of_length_le (l := m) (by omega)]
  · by_cases h2 : (m.length : Int) > 16
    · rw [if_neg h, if_pos h2, if_pos (by omega), List.take_of_length_le (l := l) (by omega)]
    · rw [if_neg h, if_neg h2, List.take_of_length_le (l := m) (by omega), List.take_of_length_le (l := l) (by omega)]
/-- The way up of a fund. -/
def pathN (l : List S62) : Nat → Int → List Int
  | 0, _ => []
  | n + 1, f => if 0 ≤ f ∧ f < (l.length : Int) then f :: (if (rd_T62 l f).f1 ≥ f then [] else pathN l n (rd_T62 l f).f1) else []
theorem pathN_neg (l : List S62) (n : Nat) (f : Int) (h : f < 0) : pathN l n f = [] := by
  cases n with
  | zero => rfl
  | succ n => simp only [pathN]; rw [if_neg (by omega)]
theorem pathN_fuel (l : List S62) : ∀ (n m : Nat) (f : Int), f < n → f < m → pathN l n f = pathN l m f := by
  intro n
  induction n with
  | zero => intro m f h1 h2; rw [pathN_neg l m f (by omega)]; rfl
  | succ n ih =>
    intro m f h1 h2
    cases m with
    | zero => rw [pathN_neg l _ f (by omega)]; rfl
    | succ m =>
      simp only [pathN]
      by_cases h : 0 ≤ f ∧ f < (l.length : Int)
      · rw [if_pos h, if_pos h]
        by_cases g : (rd_T62 l f).f1 ≥ f
        · rw [if_pos g, if_pos g]
        · rw [if_neg g, if_neg g, ih m _ (by omega) (by omega)]
      · rw [if_neg h, if_neg h]
def path (l : List S62) (f : Int) : List Int := pathN l (l.length + 1) f
theorem path_out (l : List S62) (f : Int) (h : ¬ (0 ≤ f ∧ f < (l.length : Int))) : path l f = [] := by
  unfold path; simp only [pathN]; rw [if_neg h]
theorem path_in (l : List S62) (f : Int) (h : 0 ≤ f ∧ f < (l.length : Int)) : path l f = f :: (if (rd_T62 l f).f1 ≥ f then [] else path l (rd_T62 l f).f1) := by
  unfold path
  conv => lhs; simp only [pathN]
  rw [if_pos h]
  by_cases g : (rd_T62 l f).f1 ≥ f
  · rw [if_pos g, if_pos g]
  · rw [if_neg g, if_neg g, pathN_fuel l l.length (l.length + 1) _ (by omega) (by omega)]
theorem pathN_len (l : List S62) : ∀ (n : Nat) (f : Int), (pathN l n f).length ≤ n := by
  intro n
  induction n with
  | zero => intro f; simp [pathN]
  | succ n ih =>
    intro f
    simp only [pathN]
    split
    · split
      · simp
      · have := ih (rd_T62 l f).f1; simp; omega
    · simp
theorem path_len (l : List S62) (f : Int) : (path l f).length ≤ l.length + 1 := pathN_len l _ f
theorem tpath_l0 (l : List S62) : ∀ (n k : Nat) (f : Int) (acc : List Int), f < n → 2 * n + 2 ≤ k → acc.length + n < 17592186044416 → tree_Path.l0 k l f acc = some (acc ++ pathN l n f) := by
  intro n
  induction n with
  | zero =>
    intro k f acc h1 h2 h3
    obtain ⟨k, rfl⟩ : ∃ m, k = m + 2 := ⟨k - 2, by omega⟩
    simp only [tree_Path.l0]
    rw [if_neg (by omega)]
    simp [tree_Path.j1, slices_Clip_int.f, pathN]
  | succ n ih =>
    intro k f acc h1 h2 h3
    obtain ⟨k, rfl⟩ : ∃ m, k = m + 2 := ⟨k - 2, by omega⟩
    simp only [tree_Path.l0, pathN]
    by_cases h0 : f ≥ 0
    · rw [if_pos h0]
      simp only [tree_Path.j1]
      by_cases hl : f < (l.length : Int)
      · rw [if_pos (decide_eq_true hl), if_pos (by omega), if_pos ⟨h0, hl⟩]
        simp only [Option.bind_some]
        rw [if_pos h0, if_pos hl]
        by_cases g : (rd_T62 l f).f1 ≥ f
        · rw [if_pos g, if_pos g]; simp [slices_Clip_int.f]
        · rw [if_neg g, if_neg g, ih k _ _ (by omega) (by omega) (by simp; omega)]
          simp
      · rw [if_neg (by simpa using hl), if_neg (fun h => hl h.2)]
        simp [slices_Clip_int.f]
    · rw [if_neg h0, if_neg (fun h => h0 h.1)]
      simp [tree_Path.j1, slices_Clip_int.f]
theorem tpath_eq (l : List S62) (hl : l.length ≤ 20) (f : Int) (k : Nat) (hk : 50 ≤ k) : tree_Path.f k l f = some (path l f) := by
  unfold tree_Path.f
  by_cases h : f < (l.length : Int)
  · rw [tpath_l0 l (l.length + 1) k f [] (by omega) (by omega) (by simp; omega)]; simp [path]
  · obtain ⟨k, rfl⟩ : ∃ m, k = m + 2 := ⟨k - 2, by omega⟩
    rw [path_out l f (by omega)]
    simp only [tree_Path.l0]
    rw [if_pos (by omega)]
    simp only [tree_Path.j1]
    rw [if_neg (by simpa using h)]
    simp [slices_Clip_int.f]

/-! ### what is drawn -/
def spend (al : List S46) : List Int → Int → List S37 → Int × List S37
  | [], am, out => (am, out)
  | n :: r, am, out => if am = 0 then (am, out) else spend al r (am - min am (rd_T46 al n).f3) (out ++ [⟨n, min am (rd_T46 al n).f3⟩])
theorem spend_zero (al : List S46) (s : List Int) (out : List S37) : spend al s 0 out = (0, out) := by
  cases s with
  | nil => rfl
  | cons n r => simp [spend]
def fin (p : Int × List S37) : List S37 × Int := if p.1 > 0 then ([], 7) else (p.2, 0)
theorem mn_min (a b : Int) : mn a b = min a b := by unfold mn; omega
theorem draws_l1 (al : List S46) (now : Int) (path : List Int) (x30 x31 p : Int) (s : List Int)
    (hk : ∀ am out, 0 ≤ am → am < 9223372036854775808 → out.length + s.length ≤ 1000000 → Ev (fun k => draw_Draws.l0 k al am now out path x30 (wrap64 (x31 + 1))) (fin (spend al s am out))) :
    ∀ (rest pre : List Int) (am : Int) (out : List S37), openL al p now = pre ++ rest → 0 ≤ am → am < 9223372036854775808 → out.length + (rest.length + s.length) ≤ 1000000 → (pre ++ rest).length < 1000000 →
    Ev (fun k => draw_Draws.l1 k al am now out path x30 x31 (openL al p now) ((openL al p now).length : Int) (pre.length : Int)) (fin (spend al (rest ++ s) am out))
  | [], pre, am, out, hL, h0, h1, hb, hq => by
    refine Ev.step (fun k => ?_) (hk am out h0 h1 (by simp at hb; omega))
    simp only [draw_Draws.l1]
    rw [if_neg (by rw [hL]; simp)]
  | n :: rest, pre, am, out, hL, h0, h1, hb, hq => by
    have hn : n ∈ openL al p now := by rw [hL]; simp
    obtain ⟨n0, n1, n2⟩ := (openL_mem _ _ _ _).1 hn
    have h3 := ((opn_eq _ _ _).1 n2).2.2.2
    have hrd : rd (openL al p now) (pre.length : Int) = n := by rw [hL]; simp [rd]
    have hlt : (pre.length : Int) < ((openL al p now).length : Int) := by rw [hL]; simp; omega
    by_cases c : am = 0
    · subst c
      rw [spend_zero]
      refine Ev.step (f := fun _ => some (fin (0, out))) (fun k => ?_) (Ev.now _)
      simp only [draw_Draws.l1]
      rw [if_pos hlt, if_pos (by omega), if_pos hlt, hrd, if_pos n0, if_pos n1, mn_min, if_pos (by omega)]
      simp [slices_Clip_Draw.f, fin]
    · have ih := draws_l1 al now path x30 x31 p s hk rest (pre ++ [n]) (am - min am (rd_T46 al n).f3) (out ++ [⟨n, min am (rd_T46 al n).f3⟩]) (by rw [hL]; simp) (by omega) (by omega) (by simp at hb ⊢; omega) (by simp at hq ⊢; omega)
      simp only [List.cons_append, spend]
      rw [if_neg c]
      refine Ev.step (fun k => ?_) ih
      simp only [draw_Draws.l1]
      simp at hb hq
      rw [if_pos hlt, if_pos (by omega), if_pos hlt, hrd, if_pos n0, if_pos n1, mn_min, if_neg (by omega), if_pos (by omega), show wrap64 ((pre.length : Int) + 1) = (((pre ++ [n]).length : Nat) : Int) by simp; unfold wrap64; omega, show wrap64 (am - min am (rd_T46 al n).f3) = am - min am (rd_T46 al n).f3 by unfold wrap64; omega]
theorem draws_l0 (al : List S46) (hl : al.length < 20) (now : Int) (path : List Int) (hpl : path.length ≤ 1000) : ∀ (ps qs : List Int) (am : Int) (out : List S37), path = qs ++ ps → 0 ≤ am → am < 9223372036854775808 → out.length + (ps.flatMap (openL al · now)).length ≤ 1000000 →
    Ev (fun k => draw_Draws.l0 k al am now out path (path.length : Int) (qs.length : Int)) (fin (spend al (ps.flatMap (openL al · now)) am out))
  | [], qs, am, out, hP, h0, h1, hb => by
    refine Ev.step (f := fun _ => some (fin (am, out))) (fun k => ?_) (Ev.now _)
    simp only [draw_Draws.l0]
    rw [if_neg (by rw [hP]; simp)]
    unfold fin slices_Clip_Draw.f
    by_cases c : am > 0
    · rw [if_pos c, if_pos c]
    · rw [if_neg c, if_neg c]; rfl
  | p :: ps, qs, am, out, hP, h0, h1, hb => by
    have hrd : rd path (qs.length : Int) = p := by rw [hP]; simp [rd]
    have hlt : (qs.length : Int) < (path.length : Int) := by rw [hP]; simp; omega
    have hq : qs.length < 1000 := by omega
    rw [List.flatMap_cons]
    refine Ev.step (f := fun k => (draw_open.f k al p now).bind fun t => draw_Draws.l1 k al am now out path (path.length : Int) (qs.length : Int) t (t.length : Int) 0) (fun k => ?_) ?_
    · simp only [draw_Draws.l0]
      rw [if_pos hlt, if_pos (by omega), if_pos hlt, hrd]
    · refine Ev.bind (open_f al hl p now) ?_
      have hol := openL_len al p now
      refine draws_l1 al now path (path.length : Int) (qs.length : Int) p (ps.flatMap (openL al · now)) (fun am' out' g0 g1 g2 => ?_) (openL al p now) [] am out rfl h0 h1 (by rw [List.flatMap_cons, List.length_append] at hb; omega) (by simp; omega)
      have := draws_l0 al hl now path hpl ps (qs ++ [p]) am' out' (by rw [hP]; simp) g0 g1 g2
      rw [show wrap64 ((qs.length : Int) + 1) = (((qs ++ [p]).length : Nat) : Int) by simp; unfold wrap64; omega]
      exact this
theorem pathN_le (l : List S62) : ∀ (n : Nat) (f x : Int), x ∈ pathN l n f → x ≤ f := by
  intro n
  induction n with
  | zero => intro f x hx; simp [pathN] at hx
  | succ n ih =>
    intro f x hx
    simp only [pathN] at hx
    split at hx
    · split at hx
      · simp at hx; omega
      · rcases List.mem_cons.1 hx with e | e
        · omega
        · have := ih _ _ e; omega
    · simp at hx
theorem pathN_nodup (l : List S62) : ∀ (n : Nat) (f : Int), (pathN l n f).Nodup := by
  intro n
  induction n with
  | zero => intro f; simp [pathN]
  | succ n ih =>
    intro f
    simp only [pathN]
    split
    · split
      · simp
      · refine List.nodup_cons.2 ⟨fun h => ?_, ih _⟩
        have := pathN_le l n _ _ h
        omega
    · simp
theorem flat_len (al : List S46) (hl : al.length < 20) (now : Int) : ∀ ps : List Int, (ps.flatMap (openL al · now)).length ≤ 20 * ps.length
  | [] => by simp
  | p :: ps => by
    rw [List.flatMap_cons, List.length_append]
    have := flat_len al hl now ps
    have := openL_len al p now
    simp only [List.length_cons]; omega
def drawsS (l : List S62) (al : List S46) (f am now : Int) : List S37 × Int := if path l f = [] then ([], 4) else if am < 0 then ([], 1) else fin (spend al ((path l f).flatMap (openL al · now)) am [])
theorem Ev_at {β : Type} {g : Nat → Option β} {r : β} (K : Nat) (h : ∀ k, K ≤ k → g k = some r) : Ev g r := ⟨K, h⟩
theorem draws_f (l : List S62) (al : List S46) (hll : l.length ≤ 20) (hl : al.length < 20) (f am now : Int) (h1 : am < 9223372036854775808) : Ev (fun k => draw_Draws.f k l al f am now) (drawsS l al f am now) := by
  unfold drawsS draw_Draws.f
  refine Ev.bind (Ev_at 50 (fun k hk => tpath_eq l hll f k hk)) ?_
  have hpl := path_len l f
  by_cases c1 : path l f = []
  · rw [if_pos c1]
    refine Ev.congr (f := fun _ => some ([], 4)) (fun k => ?_) (Ev.now _)
    rw [if_pos (by rw [c1]; rfl)]
  · have c1' : ¬ ((path l f).length : Int) = 0 := fun h => c1 (List.length_eq_zero_iff.1 (by omega))
    rw [if_neg c1]
    by_cases c2 : am < 0
    · rw [if_pos c2]
      refine Ev.congr (f := fun _ => some ([], 1)) (fun k => ?_) (Ev.now _)
      rw [if_neg c1', if_pos c2]
    · rw [if_neg c2]
      have hfl := flat_len al hl now (path l f)
      have := draws_l0 al hl now (path l f) (by omega) (path l f) [] am [] rfl (by omega) h1 (by simp only [List.length_nil]; omega)
      refine Ev.congr (fun k => ?_) this
      rw [if_neg c1', if_neg c2]; rfl

theorem awake11 : Ev (fun k => prebendlaw11_awake.f k) true := Ev.of prebendlaw11_awake.mono (k := 60) (by decide +kernel)

theorem i64_hi (x : Int) (h : (Lit.int .i64 x).wf = true) : x ≤ 9223372036854775807 := by
  simp only [Lit.wf, Bool.and_eq_true, decide_eq_true_eq] at h
  have e2 : IntKind.i64.max = 9223372036854775807 := by decide +kernel
  omega

theorem spend_len (al : List S46) : ∀ (s : List Int) (am : Int) (out : List S37), (spend al s am out).2.length ≤ out.length + s.length
  | [], am, out => by simp [spend]
  | n :: r, am, out => by
    simp only [spend]
    split
    · simp
    · have := spend_len al r (am - min am (rd_T46 al n).f3) (out ++ [⟨n, min am (rd_T46 al n).f3⟩])
      simp at this ⊢; omega
theorem drawsS_len (l : List S62) (al : List S46) (hll : l.length ≤ 20) (hl : al.length < 20) (f am now : Int) : (drawsS l al f am now).1.length < 1000000 := by
  unfold drawsS
  split
  · simp
  · split
    · simp
    · unfold fin
      split
      · simp
      · have := spend_len al ((path l f).flatMap (openL al · now)) am []
        have := flat_len al hl now (path l f)
        have := path_len l f
        simp only [List.length_nil] at *
        omega

/-! ### what is drawn is right -/
theorem spend_pre (al : List S46) : ∀ (s : List Int) (am : Int) (out : List S37), ∃ e, (spend al s am out).2 = out ++ e
  | [], am, out => ⟨[], by simp [spend]⟩
  | n :: r, am, out => by
    simp only [spend]
    split
    · exact ⟨[], by simp⟩
    · obtain ⟨e, he⟩ := spend_pre al r (am - min am (rd_T46 al n).f3) (out ++ [⟨n, min am (rd_T46 al n).f3⟩])
      exact ⟨_, by rw [he, List.append_assoc]⟩
theorem rd37_mid' (pre post : List S37) (x : S37) (i : Int) (hi : i = pre.length) : rd_T37 (pre ++ x :: post) i = x := by
  subst hi
  simp [rd_T37]
abbrev fdx (al : List S46) (path : List Int) (x : Int) : Nat := path.idxOf (rd_T46 al x).f0
theorem lev (al : List S46) (now : Int) (d : List S37) (path : List Int) (hpl : path.length ≤ 1000) (am i x : Int) (F0 F1 F2 F3 F4 F5 : Int) (hm : F0 ∈ path)
    (h : Ev (fun k => prebendlaw11_DrawTakes.j4 k now al d path am (path.idxOf F0 : Int) i x F0 F1 F2 F3 F4 F5) true) : ∀ (n lv : Nat), lv + n = path.idxOf F0 →
    Ev (fun k => prebendlaw11_DrawTakes.l1 k now al d path am (lv : Int) i x F0 F1 F2 F3 F4 F5) true
  | 0, lv, hn => by
    have hlt := List.idxOf_lt_length_of_mem hm
    obtain rfl : lv = path.idxOf F0 := by omega
    refine Ev.step (fun k => ?_) h
    simp only [prebendlaw11_DrawTakes.l1]
    have : rd path (path.idxOf F0 : Int) = F0 := by
      simp only [rd, Int.toNat_natCast, List.getD_eq_getElem?_getD, List.getElem?_eq_getElem hlt, Option.getD_some]
      exact List.getElem_idxOf hlt
    rw [if_pos (by omega), if_pos (by omega), if_pos this]
  | n + 1, lv, hn => by
    have hlt := List.idxOf_lt_length_of_mem hm
    have hl2 : lv < path.length := by omega
    refine Ev.step (fun k => ?_) (lev al now d path hpl am i x F0 F1 F2 F3 F4 F5 hm h n (lv + 1) (by omega))
    simp only [prebendlaw11_DrawTakes.l1]
    have : rd path (lv : Int) ≠ F0 := by
      simp only [rd, Int.toNat_natCast, List.getD_eq_getElem?_getD, List.getElem?_eq_getElem hl2, Option.getD_some]
      have := List.not_of_lt_findIdx (p := fun z => z == F0) (xs := path) (i := lv) (by show lv < path.idxOf F0; omega)
      simpa using this
    rw [if_pos (by omega), if_pos (by omega), if_neg this, show wrap64 ((lv : Int) + 1) = ((lv + 1 : Nat) : Int) by unfold wrap64; omega]
theorem takes_l0 (al : List S46) (now : Int) (path : List Int) (hpl : path.length ≤ 1000) (d : List S37) (hd : d.length ≤ 1000000) : ∀ (s : List Int) (am : Int) (dd : List S37) (lv : Nat), 0 ≤ am → am < 9223372036854775808 → spend al s am dd = (0, d) →
    (∀ x ∈ s, 0 ≤ x ∧ x < (al.length : Int) ∧ (rd_T46 al x).f1 ≤ now ∧ now < (rd_T46 al x).f2 ∧ (rd_T46 al x).f3 > 0 ∧ (rd_T46 al x).f0 ∈ path) → (∀ x ∈ s, lv ≤ fdx al path x) → s.Pairwise (fun a b => fdx al path a ≤ fdx al path b) → s.Pairwise (fun a b => (rd_T46 al a).f0 = (rd_T46 al b).f0 → lexU al a b) →
    (dd = [] ∨ ∃ n t pre, dd = pre ++ [(⟨n, t⟩ : S37)] ∧ 0 ≤ n ∧ n < (al.length : Int) ∧ ∀ x ∈ s, (rd_T46 al n).f0 = (rd_T46 al x).f0 → lexU al n x) →
    Ev (fun k => prebendlaw11_DrawTakes.l0 k now al d path am (lv : Int) (dd.length : Int)) true := by
  intro s
  induction s with
  | nil =>
    intro am dd lv h0 h1 hs hx hlv hp1 hp2 hpr
    simp only [spend, Prod.mk.injEq] at hs
    obtain ⟨rfl, rfl⟩ := hs
    refine Ev.step (f := fun k => (prebendlaw11_awake.f k).bind fun t352 => (if t352 = true then (some ((0 : Int) == 0)) else (some false))) (fun k => by simp only [prebendlaw11_DrawTakes.l0]; rw [if_neg (by omega)]) (Ev.bind awake11 (Ev.congr (fun k => if_pos rfl) ?_))
    exact Ev.now _
  | cons x s ih =>
    intro am dd lv h0 h1 hs hx hlv hp1 hp2 hpr
    by_cases c : am = 0
    · subst c
      rw [spend_zero] at hs
      obtain rfl : dd = d := by injection hs
      refine Ev.step (f := fun k => (prebendlaw11_awake.f k).bind fun t352 => (if t352 = true then (some ((0 : Int) == 0)) else (some false))) (fun k => by simp only [prebendlaw11_DrawTakes.l0]; rw [if_neg (by omega)]) (Ev.bind awake11 (Ev.congr (fun k => if_pos rfl) ?_))
      exact Ev.now _
    · obtain ⟨x0, x1, x2, x3, x4, x5⟩ := hx x (by simp)
      simp only [spend] at hs
      rw [if_neg c] at hs
      obtain ⟨t, ht⟩ : ∃ t, t = min am (rd_T46 al x).f3 := ⟨_, rfl⟩
      rw [← ht] at hs
      obtain ⟨e, he⟩ := spend_pre al s (am - t) (dd ++ [⟨x, t⟩])
      rw [hs] at he
      have hd1 : d = dd ++ (⟨x, t⟩ : S37) :: e := by simpa using he
      have hrd : rd_T37 d (dd.length : Int) = ⟨x, t⟩ := by rw [hd1]; exact rd37_mid' _ _ _ _ rfl
      have hlen : d.length = dd.length + 1 + e.length := by rw [hd1]; simp; omega
      have hp1' := List.pairwise_cons.1 hp1
      have hp2' := List.pairwise_cons.1 hp2
      have ih' := ih (am - t) (dd ++ [⟨x, t⟩]) (fdx al path x) (by omega) (by omega) hs (fun y hy => hx y (by simp [hy])) (fun y hy => hp1'.1 y hy) hp1'.2 hp2'.2 (.inr ⟨x, t, dd, rfl, x0, x1, fun y hy => hp2'.1 y hy⟩)
      have hidx := List.idxOf_lt_length_of_mem x5
      have hfull : dd.length + 1 < d.length → t = (rd_T46 al x).f3 := by
        intro hlt
        by_cases c2 : t = am
        · subst c2
          rw [Int.sub_self, spend_zero] at hs
          have : dd ++ [(⟨x, t⟩ : S37)] = d := by injection hs
          rw [← this] at hlt; simp at hlt
        · omega
      have hj4 : Ev (fun k => prebendlaw11_DrawTakes.j4 k now al d path am (path.idxOf (rd_T46 al x).f0 : Int) (dd.length : Int) x (rd_T46 al x).f0 (rd_T46 al x).f1 (rd_T46 al x).f2 (rd_T46 al x).f3 (rd_T46 al x).f4 (rd_T46 al x).f5) true := by
        refine Ev.step (fun k => ?_) ih'
        simp only [prebendlaw11_DrawTakes.j4]
        rw [if_neg (by omega), hrd, show wrap64 (am - t) = am - t by unfold wrap64; omega, show wrap64 ((dd.length : Int) + 1) = (((dd ++ [(⟨x, t⟩ : S37)]).length : Nat) : Int) by simp; unfold wrap64; omega]
        rcases hpr with rfl | ⟨n, tn, pre, rfl, n0, n1, hn⟩
        · rw [if_neg (by simp), if_pos (by simp), if_pos (by simp at hlen ⊢; omega)]
        · have hpl2 : (pre ++ [(⟨n, tn⟩ : S37)]).length = pre.length + 1 := by simp
          have hrd2 : rd_T37 d (pre.length : Int) = ⟨n, tn⟩ := by rw [hd1, List.append_assoc]; exact rd37_mid' _ _ _ _ rfl
          rw [if_pos (by omega), show wrap64 (((pre ++ [(⟨n, tn⟩ : S37)]).length : Int) - 1) = (pre.length : Int) by rw [hpl2]; unfold wrap64; omega, if_pos (by omega), if_pos (by omega), hrd2, if_pos n0, if_pos n1]
          by_cases g : (rd_T46 al n).f0 = (rd_T46 al x).f0
          · dsimp only
            rw [if_pos g]
            have hlex := hn x (by simp) g
            rcases hlex with hlex | ⟨hlex, hlt⟩
            · rw [if_neg (by omega), if_neg (by omega), if_pos (by omega), if_pos (by omega)]
            · rw [if_neg (by omega), if_pos hlex, if_neg (by omega), if_pos (by omega), if_pos (by omega)]
          · dsimp only
            rw [if_neg g, if_pos (by omega), if_pos (by omega)]
      have hlev := lev al now d path hpl am (dd.length : Int) x (rd_T46 al x).f0 (rd_T46 al x).f1 (rd_T46 al x).f2 (rd_T46 al x).f3 (rd_T46 al x).f4 (rd_T46 al x).f5 x5 hj4 (path.idxOf (rd_T46 al x).f0 - lv) lv (by have := hlv x (by simp); simp only [fdx] at this; omega)
      refine Ev.step (f := fun k => prebendlaw11_DrawTakes.j1 k now al d path am (lv : Int) (dd.length : Int) x false) (fun k => ?_) (Ev.step (f := fun k => prebendlaw11_DrawTakes.j2 k now al d path am (lv : Int) (dd.length : Int) x false (rd_T46 al x).f0 (rd_T46 al x).f1 (rd_T46 al x).f2 (rd_T46 al x).f3 (rd_T46 al x).f4 (rd_T46 al x).f5) (fun k => ?_) (Ev.step (fun k => ?_) hlev))
      · simp only [prebendlaw11_DrawTakes.l0]
        rw [if_pos (by omega), if_pos (by omega), hrd, if_neg (by dsimp only; omega), decide_eq_false (by dsimp only; omega)]
      · simp only [prebendlaw11_DrawTakes.j1, Bool.false_eq_true, if_false]
        rw [if_pos x0, if_pos x1, if_pos (by omega), if_pos (by omega), hrd, if_neg (by dsimp only; omega), if_neg (by dsimp only; omega), if_neg (by omega), if_neg (by omega)]
        rw [show wrap64 ((dd.length : Int) + 1) = (dd.length : Int) + 1 by unfold wrap64; omega]
        by_cases g : (dd.length : Int) + 1 < (d.length : Int)
        · rw [if_pos g]
          have := hfull (by omega)
          dsimp only
          rw [this]
          simp
        · rw [if_neg g]
      · simp only [prebendlaw11_DrawTakes.j2, Bool.false_eq_true, if_false]
theorem seq_idx (al : List S46) (now : Int) (path : List Int) (hnd : path.Nodup) : ∀ (ps qs : List Int), path = qs ++ ps → (∀ x ∈ ps.flatMap (openL al · now), (rd_T46 al x).f0 ∈ ps) ∧ (ps.flatMap (openL al · now)).Pairwise (fun a b => fdx al path a ≤ fdx al path b) ∧ (ps.flatMap (openL al · now)).Pairwise (fun a b => (rd_T46 al a).f0 = (rd_T46 al b).f0 → lexU al a b)
  | [], qs, hP => by simp
  | p :: ps, qs, hP => by
    obtain ⟨i1, i2, i3⟩ := seq_idx al now path hnd ps (qs ++ [p]) (by rw [hP]; simp)
    have hn2 := hnd
    rw [hP, List.nodup_append] at hn2
    have hpq : p ∉ qs := fun h => hn2.2.2 p h p (by simp) rfl
    have hpp : p ∉ ps := (List.nodup_cons.1 hn2.2.1).1
    have hf : ∀ x ∈ openL al p now, (rd_T46 al x).f0 = p := fun x hx => ((opn_eq _ _ _).1 ((openL_mem _ _ _ _).1 hx).2.2).1
    have hip : path.idxOf p = qs.length := by rw [hP, List.idxOf_append, if_neg hpq]; simp
    have hiq : ∀ q ∈ ps, qs.length ≤ path.idxOf q := fun q hq => by
      rw [hP, List.idxOf_append, if_neg (fun h => hn2.2.2 q h q (by simp [hq]) rfl)]; omega
    rw [List.flatMap_cons]
    refine ⟨fun x hx => ?_, List.pairwise_append.2 ⟨?_, i2, fun a ha b hb => ?_⟩, List.pairwise_append.2 ⟨?_, i3, fun a ha b hb => ?_⟩⟩
    · rcases List.mem_append.1 hx with h | h
      · rw [hf x h]; simp
      · exact List.mem_cons_of_mem _ (i1 x h)
    · refine List.Pairwise.imp_of_mem ?_ (openL_lex al p now)
      intro a b ha hb _
      simp only [fdx, hf a ha, hf b hb]
      exact Nat.le_refl _
    · simp only [fdx, hf a ha, hip]
      exact hiq _ (i1 b hb)
    · exact List.Pairwise.imp (R := lexU al) (S := fun a b => (rd_T46 al a).f0 = (rd_T46 al b).f0 → lexU al a b) (fun h => fun _ => h) (openL_lex al p now)
    · intro e
      rw [hf a ha] at e
      exact absurd (i1 b hb) (e ▸ hpp)

theorem DrawTakes : prebendlaw11_DrawTakes.Pure := by
  intro l al f am now _ _ _ ham _
  have h1 : am < 9223372036854775808 := by have := i64_hi am ham; omega
  have hll : (l.take 12).length ≤ 20 := by rw [List.length_take]; omega
  have hal : (al.take 16).length < 20 := by rw [List.length_take]; omega
  refine Ev.rounds ?_
  unfold prebendlaw11_DrawTakes.f
  rw [few_eq]
  simp only [Option.bind_some]
  obtain ⟨L, hL⟩ : ∃ L, L = l.take 12 := ⟨_, rfl⟩
  obtain ⟨A, hA⟩ : ∃ A, A = al.take 16 := ⟨_, rfl⟩
  rw [← hL] at hll ⊢
  rw [← hA] at hal ⊢
  refine Ev.bind (draws_f L A hll hal f am now h1) ?_
  have fail : ∀ e : Int, e ≠ 0 → ∀ t : List S37 × Int, t = ([], e) → Ev (fun k => if t.2 = 0 then ((tree_Path.f k L f).bind fun t349 => (prebendlaw11_DrawTakes.l0 k now A t.1 t349 am 0 0)) else ((prebendlaw11_awake.f k).bind fun t348 => (if t348 = true then (some ((t.1.length : Int) == 0)) else (some false)))) true := by
    rintro e he t rfl
    refine Ev.congr (fun k => if_neg he) (Ev.bind awake11 (Ev.congr (fun k => if_pos rfl) ?_))
    exact Ev.now _
  unfold drawsS
  by_cases c1 : path L f = []
  · rw [if_pos c1]; exact fail 4 (by omega) _ rfl
  · rw [if_neg c1]
    by_cases c2 : am < 0
    · rw [if_pos c2]; exact fail 1 (by omega) _ rfl
    · rw [if_neg c2]
      obtain ⟨q, hq⟩ : ∃ q, q = spend A ((path L f).flatMap (openL A · now)) am [] := ⟨_, rfl⟩
      rw [← hq]
      unfold fin
      by_cases c3 : q.1 > 0
      · rw [if_pos c3]; exact fail 7 (by omega) _ rfl
      · rw [if_neg c3]
        have hq0 : ∀ (s : List Int) (a : Int) (o : List S37), 0 ≤ a → 0 ≤ (spend A s a o).1 := by
          intro s
          induction s with
          | nil => intro a o h; exact h
          | cons n r ih => 
            intro a o h
            simp only [spend]
            split
            · exact h
            · exact ih _ _ (by omega)
        have hq1 : q.1 = 0 := by have := hq0 ((path L f).flatMap (openL A · now)) am [] (by omega); rw [← hq] at this; omega
        have hspend : spend A ((path L f).flatMap (openL A · now)) am [] = (0, q.2) := by rw [← hq, ← hq1]
        have hpl := path_len L f
        have hfl := flat_len A hal now (path L f)
        have hnd : (path L f).Nodup := pathN_nodup _ _ _
        obtain ⟨i1, i2, i3⟩ := seq_idx A now (path L f) hnd (path L f) [] rfl
        have hlen := spend_len A ((path L f).flatMap (openL A · now)) am []
        rw [hspend] at hlen
        refine Ev.congr (fun k => if_pos rfl) (Ev.bind (Ev_at 50 (fun k hk => tpath_eq L hll f k hk)) ?_)
        exact takes_l0 A now (path L f) (by omega) q.2 (by simp only [List.length_nil] at hlen; omega) _ am [] 0 (by omega) h1 hspend (fun x hx => by
          obtain ⟨p, hp, hxp⟩ := List.mem_flatMap.1 hx
          obtain ⟨g0, g1, g2⟩ := (openL_mem _ _ _ _).1 hxp
          obtain ⟨g3, g4, g5, g6⟩ := (opn_eq _ _ _).1 g2
          exact ⟨g0, g1, g4, g5, g6, i1 x hx⟩) (fun _ _ => Nat.zero_le _) i2 i3 (.inl rfl)

end Go.Proofs.Ytlccomoiajnkmaa.Pure
end
section
namespace Go.Proofs.Ytlccomoiajnkmaa.Rd
open Go.ChangeShapes Go.WideShapes Go.Deep Go.RowKit Go.Proofs.YtlccomoiajnkmaaW.PrintWords
set_option linter.unusedVariables false
/-- Cells that are read as a value of type T stand for a plain value x of kind d, of which 'good' holds. -/
def Rds {α : Type} (P : Program) (d : Kd α) (T : TypeId) (good : α → Prop) : Prop :=
  ∀ (H : Type) (enc : TypeId × Value → H) (w : World) (base : Nat) (spare : Nat → Bool) (held : Bool) (n : Nat) (cs : List Value) (y : DataW H × List MemPlace),
    DataW.trod enc P w base spare held n T cs = some y → ∃ x, d.K w x cs ∧ good x
theorem rds_int {P : Program} {T : TypeId} {k : IntKind} (ht : P.underlying T = some (.int k)) : Rds P (Kd.int k) T (fun x => (Lit.int k x).wf = true) := by
  intro H enc w base spare held n cs y h
  obtain ⟨m, rfl, _, hw⟩ := DataW.trod_int ht h
  exact ⟨m, rfl, hw⟩
theorem rds_bool {P : Program} {T : TypeId} (ht : P.underlying T = some .bool) : Rds P Kd.bool T (fun _ => True) := by
  intro H enc w base spare held n cs y h
  obtain ⟨m, rfl, _⟩ := DataW.trod_bool ht h
  exact ⟨m, rfl, trivial⟩
theorem rds_string {P : Program} {T : TypeId} (ht : P.underlying T = some .string) : Rds P Kd.string T (fun s => s.size ≤ maxLen) := by
  intro H enc w base spare held n cs y h
  obtain ⟨m, rfl, _, hw⟩ := DataW.trod_string ht h
  exact ⟨m, rfl, hw⟩
theorem rds_slice {α : Type} {P : Program} {d : Kd α} {T e : TypeId} {good : α → Prop} (ht : P.underlying T = some (.slice e)) (hc : P.cellsOf e = d.sz) (hr : Rds P d e good) :
    Rds P (Kd.slice e d) T (fun xs => xs.length ≤ maxLen ∧ ∀ x ∈ xs, good x) := by
  intro H enc w base spare held n cs y h
  rcases open_slice ht h with ⟨rfl, _⟩ | ⟨a, len, cap, m, n', D, Pl, rfl, hb, hl, hm, hmm, _, hi⟩
  · exact ⟨[], ⟨none, 0, rfl, Nat.le_refl _, rfl, by simp, fun h0 => absurd h0 (by simp)⟩, by simp, by simp⟩
  · have hlm : len ≤ m := by rw [hmm]; split <;> omega
    have step : ∀ l, l ≤ len → ∃ xs : List α, xs.length = l ∧ (∀ x ∈ xs, good x) ∧ ∀ j p, xs[j]? = some p → ∃ c, w.cells? base (a.add (j * d.sz)) d.sz = some c ∧ d.K w p c := by
      intro l
      induction l with
      | zero => intro _; exact ⟨[], rfl, by simp, by simp⟩
      | succ l ih =>
        intro hl1
        obtain ⟨xs, hx, hg, hj⟩ := ih (by omega)
        obtain ⟨c, h1, h2⟩ := hi l (by omega)
        obtain ⟨x, k, g⟩ := hr _ _ _ _ _ _ _ _ _ h2
        rw [hc] at h1
        refine ⟨xs ++ [x], by simp [hx], ?_, ?_⟩
        · intro z hz
          rcases List.mem_append.1 hz with hz | hz
          · exact hg z hz
          · rw [List.mem_singleton.1 hz]; exact g
        · intro j p hp
          rcases Nat.lt_or_ge j xs.length with hlt | hge
          · rw [List.getElem?_append_left hlt] at hp; exact hj j p hp
          · have hjl : j = l := by
              have := (List.getElem?_eq_some_iff.1 hp).1
              rw [List.length_append, List.length_singleton] at this
              omega
            subst hjl
            rw [List.getElem?_append_right hge, hx, Nat.sub_self] at hp
            simp at hp
            subst hp
            exact ⟨c, h1, k⟩
    obtain ⟨xs, hx, hg, hj⟩ := step len (Nat.le_refl _)
    refine ⟨xs, ⟨some a, cap, by rw [hx], by omega, rfl, by rw [hx]; unfold maxLen at hm; omega, fun _ => ⟨a, rfl, fun j p hp => ?_⟩⟩, by rw [hx]; omega, hg⟩
    obtain ⟨c, h1, k⟩ := hj j p hp
    refine ⟨c, d.K_len k, k, fun i u hu => ?_⟩
    obtain ⟨_, hcl, hat⟩ := World.cells?_some h1
    have hil : i < d.sz := by have := (List.getElem?_eq_some_iff.1 hu).1; omega
    rw [← Go.Deep.add_add, hat i hil, hu]
/-- Two kinds in line. -/
theorem pair_mk {α β : Type} {a : Kd α} {b : Kd β} {w : World} {x : α} {y : β} {cs : List Value} {o : Nat} (h1 : a.K w x ((cs.drop o).take a.sz)) (h2 : b.K w y (cs.drop (o + a.sz))) : (Kd.pair a b).K w (x, y) (cs.drop o) :=
  ⟨_, _, by rw [← List.drop_drop]; exact (List.take_append_drop a.sz (cs.drop o)).symm, h1, h2⟩
theorem last_mk {α : Type} {a : Kd α} {w : World} {x : α} {cs : List Value} {o : Nat} (hl : cs.length = o + a.sz) (h1 : a.K w x ((cs.drop o).take a.sz)) : a.K w x (cs.drop o) := by
  rwa [List.take_of_length_le (by rw [List.length_drop]; omega)] at h1
/-- A struct's field. -/
theorem field {H : Type} {enc : TypeId × Value → H} {P : Program} {w : World} {base : Nat} {spare : Nat → Bool} {held : Bool} {n : Nat} {cs : List Value} {fs : Array Field} {xs : List (DataW H × List MemPlace)} (hx : xs.length = fs.size)
    (hf : ∀ (i : Nat) (f : Field), fs[i]? = some f → DataW.trod enc P w base spare held n f.type ((cs.drop f.offset).take (P.cellsOf f.type)) = xs[i]?)
    (i : Nat) (f : Field) (hi : fs[i]? = some f) {α : Type} {d : Kd α} {good : α → Prop} {o T : Nat} (ho : f.offset = o) (hT : f.type = T) (hc : P.cellsOf T = d.sz) (hr : Rds P d T good) : ∃ x, d.K w x ((cs.drop o).take d.sz) ∧ good x := by
  have h := hf i f hi
  have hlt : i < xs.length := by rw [hx]; exact (Array.getElem?_eq_some_iff.1 hi).1
  rw [List.getElem?_eq_getElem hlt, ho, hT, hc] at h
  exact hr _ _ _ _ _ _ _ _ _ h
end Go.Proofs.Ytlccomoiajnkmaa.Rd
end
section
namespace Go.Proofs.Ytlccomoiajnkmaa.drawTakes
open Go.ChangeShapes Go.WideShapes Go.ChangeAt Go.RowKit Go.Proofs.YtlccomoiajnkmaaW.PrintWords Go.Proofs.Ytlccomoiajnkmaa.PAll
open Go.ChangeMaps (open_string shut_string)
set_option linter.unusedVariables false
theorem own : ownKnob Try.prog.godebug = none := by kernel_rfl
theorem laidOut : laidOutB Try.prog = true := by kernel_rfl
theorem rds62 : Rd.Rds Try.prog k62 62 g62 := by
  intro H enc w base spare held n cs y h
  obtain ⟨xs, m, _, _, hlen, hxl, hf⟩ := DataW.trod_struct Try.underlying62 h
  have hl : cs.length = 3 := hlen.trans (by kernel_rfl)
  obtain ⟨x0, h0, g0_⟩ := Rd.field hxl hf 0 _ rfl (d := Kd.string) (good := (fun x => x.size ≤ maxLen)) (o := 0) (T := 9) rfl rfl (by kernel_rfl) (Rd.rds_string Try.underlying9)
  obtain ⟨x1, h1, g1_⟩ := Rd.field hxl hf 1 _ rfl (d := (Kd.int .i64)) (good := (fun x => (Lit.int .i64 x).wf = true)) (o := 1) (T := 3) rfl rfl (by kernel_rfl) (Rd.rds_int Try.underlying3)
  obtain ⟨x2, h2, g2_⟩ := Rd.field hxl hf 2 _ rfl (d := (Kd.int .i64)) (good := (fun x => (Lit.int .i64 x).wf = true)) (o := 2) (T := 3) rfl rfl (by kernel_rfl) (Rd.rds_int Try.underlying3)
  have hK := (Rd.pair_mk (o := 0) h0 (Rd.pair_mk (o := 1) h1 (Rd.last_mk (a := (Kd.int .i64)) (o := 2) hl h2)))
  exact ⟨⟨x0, x1, x2⟩, (by rw [List.drop_zero] at hK; exact hK), ⟨g0_, g1_, g2_⟩⟩
theorem rds46 : Rd.Rds Try.prog k46 46 g46 := by
  intro H enc w base spare held n cs y h
  obtain ⟨xs, m, _, _, hlen, hxl, hf⟩ := DataW.trod_struct Try.underlying46 h
  have hl : cs.length = 6 := hlen.trans (by kernel_rfl)
  obtain ⟨x0, h0, g0_⟩ := Rd.field hxl hf 0 _ rfl (d := (Kd.int .i64)) (good := (fun x => (Lit.int .i64 x).wf = true)) (o := 0) (T := 3) rfl rfl (by kernel_rfl) (Rd.rds_int Try.underlying3)
  obtain ⟨x1, h1, g1_⟩ := Rd.field hxl hf 1 _ rfl (d := (Kd.int .i64)) (good := (fun x => (Lit.int .i64 x).wf = true)) (o := 1) (T := 3) rfl rfl (by kernel_rfl) (Rd.rds_int Try.underlying3)
  obtain ⟨x2, h2, g2_⟩ := Rd.field hxl hf 2 _ rfl (d := (Kd.int .i64)) (good := (fun x => (Lit.int .i64 x).wf = true)) (o := 2) (T := 3) rfl rfl (by kernel_rfl) (Rd.rds_int Try.underlying3)
  obtain ⟨x3, h3, g3_⟩ := Rd.field hxl hf 3 _ rfl (d := (Kd.int .i64)) (good := (fun x => (Lit.int .i64 x).wf = true)) (o := 3) (T := 3) rfl rfl (by kernel_rfl) (Rd.rds_int Try.underlying3)
  obtain ⟨x4, h4, g4_⟩ := Rd.field hxl hf 4 _ rfl (d := (Kd.int .i64)) (good := (fun x => (Lit.int .i64 x).wf = true)) (o := 4) (T := 3) rfl rfl (by kernel_rfl) (Rd.rds_int Try.underlying3)
  obtain ⟨x5, h5, g5_⟩ := Rd.field hxl hf 5 _ rfl (d := (Kd.int .i64)) (good := (fun x => (Lit.int .i64 x).wf = true)) (o := 5) (T := 3) rfl rfl (by kernel_rfl) (Rd.rds_int Try.underlying3)
  have hK := (Rd.pair_mk (o := 0) h0 (Rd.pair_mk (o := 1) h1 (Rd.pair_mk (o := 2) h2 (Rd.pair_mk (o := 3) h3 (Rd.pair_mk (o := 4) h4 (Rd.last_mk (a := (Kd.int .i64)) (o := 5) hl h5))))))
  exact ⟨⟨x0, x1, x2, x3, x4, x5⟩, (by rw [List.drop_zero] at hK; exact hK), ⟨g0_, g1_, g2_, g3_, g4_, g5_⟩⟩
set_option maxRecDepth 100000 in
theorem lifted (os : Os) (started : os.Started) (H : Type) (enc : TypeId × Value → H) :
    ReturnsInHanded {} Try.checked os 5 .any (Rows.drawTakesSpec.pre6 enc Try.prog Try.f5 Rows.drawTakesRow.domain false) (Rows.drawTakesSpec.post enc Try.prog Try.f5 false true false false) := by
  refine returnsInHanded_of_change_sized (C := Try.checked) own started (by kernel_rfl) Try.func5
    (ChangeSpec.witness6 (enc := enc) (C := Try.checked) false ⟨#[], #[.slice none 0 0, .slice none 0 0, .int .i64 0, .int .i64 0, .int .i64 0], []⟩ 8 (by kernel_rfl) (by kernel_rfl) (by kernel_rfl) (by kernel_rfl)) ?_
  intro W base args ds gs before hval0 hW hcnd hsz0 _
  have hval : ∀ (j : Nat) t v, Try.f5.params[j]? = some t → args[j]? = some v → Value.okWide Try.prog W .any base t v := hval0
  have hW' := hW
  obtain ⟨p, q, hA0, hV, rfl, hfz, hnd⟩ := hW
  have hA : DataW.TrodAll enc Try.prog W 0 (fun _ => true) true Try.f5.params.toList args.toList ds p := hA0
  rw [Try.params5] at hA hval
  obtain ⟨v0, vs0, d0, ds0, p0, q0, hargs, rfl, rfl, h0, r0⟩ := trodAll_cons hA
  obtain ⟨v1, vs1, d1, ds1, p1, q1, rfl, rfl, rfl, h1, r1⟩ := trodAll_cons r0
  obtain ⟨v2, vs2, d2, ds2, p2, q2, rfl, rfl, rfl, h2, r2⟩ := trodAll_cons r1
  obtain ⟨v3, vs3, d3, ds3, p3, q3, rfl, rfl, rfl, h3, r3⟩ := trodAll_cons r2
  obtain ⟨v4, vs4, d4, ds4, p4, q4, rfl, rfl, rfl, h4, r4⟩ := trodAll_cons r3
  obtain ⟨rfl, rfl, rfl⟩ := trodAll_nil r4
  obtain rfl : args = #[v0, v1, v2, v3, v4] := by cases args; simp_all
  obtain ⟨rfl, rfl⟩ := trodVars_none hV
  obtain ⟨a0, len0, cap0, rfl⟩ := okWide_slice Try.underlying22 (hval 0 22 v0 rfl rfl)
  have k0 := h0
  have lt0 : ∀ x ∈ p0, x.block < W.heap.size := by obtain ⟨m, hm⟩ := k0; exact DataW.trod_lt m _ _ _ hm
  obtain ⟨l0, ⟨A0, c0, he0, hl0, hC0⟩, g0_⟩ : ∃ xs, ((Kd.slice 62 k62)).K W xs [.slice a0 len0 cap0] ∧ (fun x => (x.length ≤ maxLen ∧ ∀ y ∈ x, g62 y)) xs := by
    obtain ⟨fuel, hf⟩ := h0
    exact (Rd.rds_slice (P := Try.prog) (T := 22) Try.underlying22 (by kernel_rfl) rds62) _ _ _ _ _ _ _ _ _ hf
  obtain ⟨rfl, rfl, rfl⟩ : a0 = A0 ∧ len0 = l0.length ∧ cap0 = c0 := by simpa using he0
  obtain ⟨a1, len1, cap1, rfl⟩ := okWide_slice Try.underlying23 (hval 1 23 v1 rfl rfl)
  have k1 := h1
  have lt1 : ∀ x ∈ p1, x.block < W.heap.size := by obtain ⟨m, hm⟩ := k1; exact DataW.trod_lt m _ _ _ hm
  obtain ⟨l1, ⟨A1, c1, he1, hl1, hC1⟩, g1_⟩ : ∃ xs, ((Kd.slice 46 k46)).K W xs [.slice a1 len1 cap1] ∧ (fun x => (x.length ≤ maxLen ∧ ∀ y ∈ x, g46 y)) xs := by
    obtain ⟨fuel, hf⟩ := h1
    exact (Rd.rds_slice (P := Try.prog) (T := 23) Try.underlying23 (by kernel_rfl) rds46) _ _ _ _ _ _ _ _ _ hf
  obtain ⟨rfl, rfl, rfl⟩ : a1 = A1 ∧ len1 = l1.length ∧ cap1 = c1 := by simpa using he1
  obtain ⟨a2, rfl, rfl, rfl, w2⟩ := open_int Try.underlying3 (hval 2 3 v2 rfl rfl) h2
  obtain ⟨a3, rfl, rfl, rfl, w3⟩ := open_int Try.underlying3 (hval 3 3 v3 rfl rfl) h3
  obtain ⟨a4, rfl, rfl, rfl, w4⟩ := open_int Try.underlying3 (hval 4 3 v4 rfl rfl) h4
  clear hA0 hval0 hsz0
  refine (PAll.prebendlaw11_DrawTakes.walk Pure.DrawTakes _ _ l0 _ _ l1 a2 a3 a4 W hC0 hl0 hC1 hl1 g0_ g1_ w2 w3 w4).mono fun e W' ⟨he, bel⟩ => ?_
  subst he
  exact ⟨_, rfl, _, _, _, [], _, [], hW', trodAll_mk1 (shut_bool Try.underlying4 _), (trodAll_cons_mk (Below.trod laidOut (by kernel_rfl) (of_decide_eq_true (by kernel_rfl)) k0 bel lt0) (trodAll_cons_mk (Below.trod laidOut (by kernel_rfl) (of_decide_eq_true (by kernel_rfl)) k1 bel lt1) (trodAll_cons_mk (shut_int Try.underlying3 w2) (trodAll_cons_mk (shut_int Try.underlying3 w3) (trodAll_cons_mk (shut_int Try.underlying3 w4) trodAll_mk0))))), rfl, bel.frame _, fun h => by cases h⟩
theorem over : Rows.drawTakesRow.holds Try.pinned (OpenSpec.ofChange Rows.drawTakesSpec) :=
  OpenClaim.holds_of_wide 5 Try.f5 rfl rfl rfl rfl rfl rfl rfl ⟨rfl, rfl, rfl, rfl, rfl⟩ rfl rfl rfl rfl rfl (by kernel_rfl) Try.func5 (by kernel_rfl)
    (of_decide_eq_true (by kernel_rfl)) (by unfold Func.isWrapper; first | (rw [if_pos (by decide +kernel)]; kernel_rfl) | (rw [if_neg (by decide +kernel)]; exact ⟨rfl, rfl⟩))
    (fun os started H enc _ => lifted os started H enc)
theorem proved : Rows.DrawTakesSaid := over
#print axioms proved
end Go.Proofs.Ytlccomoiajnkmaa.drawTakes
namespace Go.Proofs.Ytlccomoiajnkmaa
/-- The row, under a short name, for the claim. -/
theorem drawTakes_holds : Rows.DrawTakesSaid := drawTakes.proved
end Go.Proofs.Ytlccomoiajnkmaa
end
