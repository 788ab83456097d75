/- Who is refused is passed over, as if not in the queue; for all arguments, no conditions. -/
import Derived.Test.YtedpoahndddgfaaBEasyRefused5
import Derived.Deep.Slices
import Derived.Deep.Fields
import Derived.ChangeSame
import Derived.ChangeArms
import Derived.OpenShut
import Derived.Test.YtedpoahndddgfaaRows
import Derived.ProofKit
import Derived.ShutString
import Derived.ChangeOld
import Derived.Carry
section
set_option linter.unusedVariables false
set_option linter.unusedSimpArgs false
namespace Go.Proofs.Ytedpoahndddgfaa.Pure
open Go Go.RowKit Go.Proofs.Ytedpoahndddgfaa.PAll Go.Proofs.YtedpoahndddgfaaW.PrintWords Go.Proofs.YtedpoahndddgfaaW.PrintLast

section SortA
variable {α : Type}
structure TP (le : α → α → Bool) : Prop where
  total : ∀ a b, le a b = true ∨ le b a = true
  trans : ∀ {a b c}, le a b = true → le b c = true → le a c = true
def eqv (le : α → α → Bool) (a b : α) : Bool := le a b && le b a
def SEq (le : α → α → Bool) (xs ys : List α) : Prop := ∀ c, xs.filter (eqv le c) = ys.filter (eqv le c)
abbrev Srt (le : α → α → Bool) (xs : List α) : Prop := xs.Pairwise (fun a b => le a b = true)
variable {le : α → α → Bool}
theorem TP.refl (h : TP le) (a : α) : le a a = true := by rcases h.total a a with h | h <;> exact h
theorem TP.of_not (h : TP le) {a b : α} (hn : le a b = false) : le b a = true := by
  rcases h.total a b with h1 | h1
  · rw [hn] at h1; cases h1
  · exact h1
theorem SEq.refl (xs : List α) : SEq le xs xs := fun _ => rfl
theorem SEq.symm {xs ys : List α} (h : SEq le xs ys) : SEq le ys xs := fun c => (h c).symm
theorem SEq.trans {xs ys zs : List α} (h : SEq le xs ys) (h2 : SEq le ys zs) : SEq le xs zs := fun c => (h c).trans (h2 c)
theorem SEq.append {xs ys xs' ys' : List α} (h : SEq le xs ys) (h2 : SEq le xs' ys') : SEq le (xs ++ xs') (ys ++ ys') := fun c => by
  rw [List.filter_append, List.filter_append, h c, h2 c]
theorem SEq.cons (x : α) {xs ys : List α} (h : SEq le xs ys) : SEq le (x :: xs) (x :: ys) := fun c => by
  rw [List.filter_cons, List.filter_cons, h c]
theorem SEq.mem (ht : TP le) {xs ys : List α} (h : SEq le xs ys) {x : α} (hx : x ∈ xs) : x ∈ ys := by
  have h1 : x ∈ xs.filter (eqv le x) := List.mem_filter.2 ⟨hx, by simp [eqv, ht.refl]⟩
  rw [h x] at h1
  exact (List.mem_filter.1 h1).1
/-- Two neighbouring parts change their places, where each of the second one is below each of the first one. -/
theorem SEq.swap (ht : TP le) {A B : List α} (h : ∀ a ∈ A, ∀ b ∈ B, le a b = false) : SEq le (A ++ B) (B ++ A) := fun c => by
  rw [List.filter_append, List.filter_append]
  by_cases hA : A.filter (eqv le c) = []
  · rw [hA]; simp
  · have hB : B.filter (eqv le c) = [] := by
      rw [List.filter_eq_nil_iff]
      intro b hb hcb
      obtain ⟨a, ha⟩ := List.exists_mem_of_ne_nil _ hA
      obtain ⟨ha, hca⟩ := List.mem_filter.1 ha
      simp only [eqv, Bool.and_eq_true] at hca hcb
      have := h a ha b hb
      rw [ht.trans hca.2 hcb.1] at this
      cases this
    rw [hB]; simp
theorem SEq.uniq (ht : TP le) : ∀ {xs ys : List α}, Srt le xs → Srt le ys → SEq le xs ys → xs = ys
  | [], [], _, _, _ => rfl
  | [], y :: ys, _, _, h => by have := SEq.mem ht (SEq.symm h) (List.mem_cons_self (a := y)); simp at this
  | x :: xs, [], _, _, h => by have := SEq.mem ht h (List.mem_cons_self (a := x)); simp at this
  | x :: xs, y :: ys, hx, hy, h => by
    have hx' := List.pairwise_cons.1 hx
    have hy' := List.pairwise_cons.1 hy
    have h1 : le y x = true := by
      rcases List.mem_cons.1 (SEq.mem ht h (List.mem_cons_self (a := x))) with e | e
      · rw [e]; exact ht.refl _
      · exact hy'.1 _ e
    have h2 : le x y = true := by
      rcases List.mem_cons.1 (SEq.mem ht (SEq.symm h) (List.mem_cons_self (a := y))) with e | e
      · rw [e]; exact ht.refl _
      · exact hx'.1 _ e
    have h3 := h x
    rw [List.filter_cons, List.filter_cons, if_pos (by simp [eqv, ht.refl]), if_pos (by simp [eqv, h1, h2])] at h3
    have h4 : x = y := by injection h3
    subst h4
    rw [SEq.uniq ht hx'.2 hy'.2 (fun c => by
      have h5 := h c
      rw [List.filter_cons, List.filter_cons] at h5
      split at h5
      · injection h5
      · exact h5)]
def ins (le : α → α → Bool) (x : α) : List α → List α
  | [] => [x]
  | y :: ys => if le x y = true then x :: y :: ys else y :: ins le x ys
def isort (le : α → α → Bool) : List α → List α
  | [] => []
  | x :: xs => ins le x (isort le xs)
theorem ins_perm (x : α) : ∀ ys : List α, (ins le x ys).Perm (x :: ys)
  | [] => .refl _
  | y :: ys => by
    unfold ins
    split
    · exact .refl _
    · exact ((ins_perm x ys).cons y).trans (.swap x y ys)
theorem isort_perm : ∀ xs : List α, (isort le xs).Perm xs
  | [] => .refl _
  | x :: xs => (ins_perm x _).trans ((isort_perm xs).cons x)
theorem ins_srt (ht : TP le) (x : α) : ∀ {ys : List α}, Srt le ys → Srt le (ins le x ys)
  | [], _ => by simp [ins]
  | y :: ys, h => by
    have h' := List.pairwise_cons.1 h
    unfold ins
    split
    · next hxy => exact List.pairwise_cons.2 ⟨fun z hz => by
        rcases List.mem_cons.1 hz with rfl | hz
        · exact hxy
        · exact ht.trans hxy (h'.1 z hz), h⟩
    · next hxy => exact List.pairwise_cons.2 ⟨fun z hz => by
        rcases List.mem_cons.1 ((ins_perm x ys).mem_iff.1 hz) with rfl | hz
        · exact ht.of_not (by simpa using hxy)
        · exact h'.1 z hz, ins_srt ht x h'.2⟩
theorem isort_srt (ht : TP le) : ∀ xs : List α, Srt le (isort le xs)
  | [] => .nil
  | x :: xs => ins_srt ht x (isort_srt ht xs)
theorem ins_seq (ht : TP le) (x : α) : ∀ ys : List α, SEq le (ins le x ys) (x :: ys)
  | [] => .refl _
  | y :: ys => by
    unfold ins
    split
    · exact .refl _
    · next hxy =>
      refine ((ins_seq ht x ys).cons y).trans ?_
      have := SEq.swap (le := le) ht (A := [x]) (B := [y]) (fun a ha b hb => by simp at ha hb; subst ha; subst hb; simpa using hxy)
      exact (SEq.append this (SEq.refl ys)).symm
theorem isort_seq (ht : TP le) : ∀ xs : List α, SEq le (isort le xs) xs
  | [] => .refl _
  | x :: xs => (ins_seq ht x _).trans ((isort_seq ht xs).cons x)
theorem isort_eq (ht : TP le) {xs ys : List α} (h : Srt le ys) (h2 : SEq le ys xs) : ys = isort le xs :=
  SEq.uniq ht h (isort_srt ht xs) (h2.trans (isort_seq ht xs).symm)
end SortA
section SortB
variable {α : Type} {d : α} {le : α → α → Bool} {cmp : α → α → Option Int}
theorem wr_ (n : Int) (h : -9223372036854775808 ≤ n) (h2 : n < 9223372036854775808) : wrap64 n = n := by unfold wrap64; omega
theorem half_ (x y : Int) (hx : 0 ≤ x) (hy : 0 ≤ y) (h : x + y < 9223372036854775808) : wrap64 ((IntKind.u64.wrap (wrap64 (x + y))) / 2) = (x + y) / 2 := by
  rw [wr_ (x + y) (by omega) h]
  have : IntKind.u64.wrap (x + y) = x + y := by
    show (x + y) % 18446744073709551616 = x + y
    omega
  rw [this, wr_ _ (by omega) (by omega)]
theorem gt_ (p q : List α) (x : α) (i : Int) (hi : i = p.length) : (p ++ x :: q).getD i.toNat d = x := by
  subst hi; simp [List.getD_eq_getElem?_getD]
theorem st_ (p q : List α) (x v : α) (i : Int) (hi : i = p.length) : (p ++ x :: q).set i.toNat v = p ++ v :: q := by
  subst hi; simp
theorem swp_ (p m q : List α) (x y : α) (i j : Int) (hi : i = p.length) (hj : j = p.length + 1 + m.length) : ((p ++ x :: (m ++ y :: q)).set i.toNat y).set j.toNat x = p ++ y :: (m ++ x :: q) := by
  rw [st_ p _ x y i hi]
  have := st_ (p ++ y :: m) q y x j (by simp; omega)
  simpa using this
theorem swp'_ (p m q : List α) (x y : α) (i j : Int) (hi : i = p.length) (hj : j = p.length + 1 + m.length) : ((p ++ x :: (m ++ y :: q)).set j.toNat x).set i.toNat y = p ++ y :: (m ++ x :: q) := by
  have := st_ (p ++ x :: m) q y x j (by simp; omega)
  rw [show p ++ x :: (m ++ y :: q) = (p ++ x :: m) ++ y :: q by simp, this, show (p ++ x :: m) ++ x :: q = p ++ x :: (m ++ x :: q) by simp, st_ p _ x y i hi]
theorem isort_congr (ht : TP le) {xs ys : List α} (h : SEq le xs ys) : isort le xs = isort le ys :=
  isort_eq ht (isort_srt ht xs) ((isort_seq ht xs).trans h)
theorem srt_isort (ht : TP le) {xs : List α} (h : Srt le xs) : isort le xs = xs := (isort_eq ht h (SEq.refl _)).symm
theorem isort_len (xs : List α) : (isort le xs).length = xs.length := (isort_perm xs).length_eq
theorem eq_of_len0 {xs : List α} (h : xs.length = 0) : xs = [] := List.length_eq_zero_iff.1 h

/-- The comparing function: below 0 just where the first one is below the second one. -/
def Cmp (le : α → α → Bool) (cmp : α → α → Option Int) : Prop := ∀ x y, ∃ t, cmp x y = some t ∧ (t < 0 ↔ le y x = false)

/-! the insertion sort -/
structure InsF (d : α) (cmp : α → α → Option Int) (l0 : Nat → List α → Int → Int → Int → Option (List α)) (l1 : Nat → List α → Int → Int → Int → Int → Option (List α)) : Prop where
  e0 : ∀ k xs a b i, l0 (k + 1) xs a b i = if i < b then l1 k xs a b i i else some xs
  e1 : ∀ k xs a b i j, l1 (k + 1) xs a b i j = if j > a then (if 0 ≤ j then (if j < (xs.length : Int) then (if 0 ≤ (wrap64 (j - 1)) then (if (wrap64 (j - 1)) < (xs.length : Int) then
      ((cmp (xs.getD j.toNat d) (xs.getD (wrap64 (j - 1)).toNat d)).bind fun t => (if t < 0 then (l1 k ((xs.set j.toNat (xs.getD (wrap64 (j - 1)).toNat d)).set (wrap64 (j - 1)).toNat (xs.getD j.toNat d)) a b i (wrap64 (j - 1))) else (l0 k xs a b (wrap64 (i + 1))))) else none) else none) else none) else none) else (l0 k xs a b (wrap64 (i + 1)))
variable {l0 : Nat → List α → Int → Int → Int → Option (List α)} {l1 : Nat → List α → Int → Int → Int → Int → Option (List α)}
theorem ins_l1 (ht : TP le) (hcmp : Cmp le cmp) (hF : InsF d cmp l0 l1) {pre post r : List α} {a b i : Int} (ha : a = pre.length) (hi0 : 0 ≤ i) (hi1 : i < 1099511627776) (x : α) : ∀ (n : Nat) (S1 S2 : List α) (j : Int), S1.length = n → j = a + S1.length →
    (pre ++ S1 ++ x :: S2 ++ post).length < 1099511627776 → Srt le (S1 ++ S2) → (∀ z ∈ S2, le z x = false) →
    (∀ S', Srt le S' → SEq le S' (S1 ++ x :: S2) → Ev (fun k => l0 k (pre ++ S' ++ post) a b (i + 1)) r) →
    Ev (fun k => l1 k (pre ++ S1 ++ x :: S2 ++ post) a b i j) r
  | 0, S1, S2, j, hn, hj, hl, hs, hz, hk => by
    have := eq_of_len0 hn
    subst this
    refine Ev.step (fun k => by rw [hF.e1, if_neg (by simp at hj; omega), wr_ _ (by omega) (by omega)]) ?_
    have := hk (x :: S2) (List.pairwise_cons.2 ⟨fun z hz' => ht.of_not (hz z hz'), by simpa using hs⟩) (SEq.refl _)
    simpa using this
  | n + 1, S1, S2, j, hn, hj, hl, hs, hz, hk => by
    obtain ⟨S, y, rfl⟩ : ∃ S y, S1 = S ++ [y] := ⟨S1.dropLast, S1.getLast (by intro e; simp [e] at hn), (List.dropLast_concat_getLast _).symm⟩
    simp at hn hj
    obtain ⟨t, h1, h2⟩ := hcmp x y
    have hlen : ((pre ++ (S ++ [y]) ++ x :: S2 ++ post).length : Int) = pre.length + S.length + 1 + 1 + S2.length + post.length := by simp; omega
    have g1 : (pre ++ (S ++ [y]) ++ x :: S2 ++ post).getD j.toNat d = x := by
      have := gt_ (d := d) (pre ++ S ++ [y]) (S2 ++ post) x j (by simp; omega)
      simpa using this
    have g2 : (pre ++ (S ++ [y]) ++ x :: S2 ++ post).getD (j - 1).toNat d = y := by
      have := gt_ (d := d) (pre ++ S) (x :: S2 ++ post) y (j - 1) (by simp; omega)
      simpa using this
    have g3 : ((pre ++ (S ++ [y]) ++ x :: S2 ++ post).set j.toNat y).set (j - 1).toNat x = pre ++ S ++ x :: (y :: S2) ++ post := by
      have := swp'_ (pre ++ S) [] (S2 ++ post) y x (j - 1) j (by simp; omega) (by simp; omega)
      simpa using this
    refine Ev.step (f := fun k => if t < 0 then l1 k (pre ++ S ++ x :: (y :: S2) ++ post) a b i (j - 1) else l0 k (pre ++ (S ++ [y]) ++ x :: S2 ++ post) a b (i + 1)) (fun k => by
      rw [hF.e1, if_pos (by omega), if_pos (by omega), if_pos (by rw [hlen]; omega), wr_ (j - 1) (by omega) (by omega), wr_ (i + 1) (by omega) (by omega), if_pos (by omega), if_pos (by rw [hlen]; omega), g1, g2, h1, g3]
      rfl) ?_
    have hs' := List.pairwise_append.1 hs
    have hs1 := List.pairwise_append.1 hs'.1
    by_cases ht0 : t < 0
    · simp only [if_pos ht0]
      have hyx := h2.1 ht0
      refine ins_l1 ht hcmp hF ha hi0 hi1 x n S (y :: S2) (j - 1) hn (by omega) (by simp at hl ⊢; omega) (by simpa using hs) (fun z hz' => ?_) (fun S' h3 h4 => hk S' h3 (h4.trans ?_))
      · rcases List.mem_cons.1 hz' with rfl | hz'
        · exact hyx
        · exact hz z hz'
      · have h5 : SEq le ([y] ++ [x]) ([x] ++ [y]) := SEq.swap ht (fun p hp q hq => by simp at hp hq; subst hp; subst hq; exact hyx)
        have := SEq.append (SEq.append (SEq.refl S) h5.symm) (SEq.refl S2)
        simpa using this
    · simp only [if_neg ht0]
      have hyx : le y x = true := by
        cases h : le y x
        · exact absurd (h2.2 h) ht0
        · rfl
      have := hk (S ++ [y] ++ x :: S2) (by
        refine List.pairwise_append.2 ⟨hs'.1, List.pairwise_cons.2 ⟨fun z hz' => ht.of_not (hz z hz'), hs'.2.1⟩, fun p hp q hq => ?_⟩
        have hpy : le p y = true := by
          rcases List.mem_append.1 hp with hp | hp
          · exact hs1.2.2 p hp y (by simp)
          · simp at hp; subst hp; exact ht.refl _
        rcases List.mem_cons.1 hq with rfl | hq
        · exact ht.trans hpy hyx
        · exact hs'.2.2 p hp q hq) (SEq.refl _)
      simpa using this
theorem ins_l0 (ht : TP le) (hcmp : Cmp le cmp) (hF : InsF d cmp l0 l1) {pre post : List α} {a b : Int} (ha : a = pre.length) : ∀ (R S : List α) (i : Int), i = a + S.length → b = i + R.length →
    (pre ++ S ++ R ++ post).length < 1099511627776 → Srt le S → Ev (fun k => l0 k (pre ++ S ++ R ++ post) a b i) (pre ++ isort le (S ++ R) ++ post)
  | [], S, i, hi, hb, hl, hs => by
    refine Ev.step (f := fun _ => some (pre ++ isort le (S ++ []) ++ post)) (fun k => ?_) (Ev.now _)
    simp at hb
    rw [hF.e0, if_neg (by omega)]
    simp [srt_isort ht hs]
  | x :: R, S, i, hi, hb, hl, hs => by
    refine Ev.step (f := fun k => l1 k (pre ++ S ++ x :: R ++ post) a b i i) (fun k => by simp at hb; rw [hF.e0, if_pos (by omega)]) ?_
    have hl' := hl
    simp at hl'
    have h0 := ins_l1 ht hcmp hF (pre := pre) (post := R ++ post) (r := pre ++ isort le (S ++ x :: R) ++ post) (a := a) (b := b) (i := i) ha (by omega) (by omega) x S.length S [] i rfl hi (by simp; omega) (by simpa using hs) (by simp) (fun S' h1 h2 => ?_)
    · simpa using h0
    · have h3 := ins_l0 ht hcmp hF (pre := pre) (post := post) (a := a) (b := b) ha R S' (i + 1) (by
        have : S'.length = S.length + 1 := by
          have e := isort_eq ht h1 h2
          rw [e, isort_len]; simp
        omega) (by simp at hb; omega) (by
          have : S'.length = S.length + 1 := by
            have e := isort_eq ht h1 h2
            rw [e, isort_len]; simp
          simp; omega) h1
      have h4 : isort le (S' ++ R) = isort le (S ++ x :: R) := isort_congr ht (by simpa using SEq.append h2 (SEq.refl R))
      rw [h4] at h3
      simpa using h3
/-- What the insertion sort does to a part. -/
theorem ins_f (ht : TP le) (hcmp : Cmp le cmp) (hF : InsF d cmp l0 l1) {pre S post : List α} {a b : Int} (ha : a = pre.length) (hb : b = a + S.length) (hl : (pre ++ S ++ post).length < 1099511627776) :
    Ev (fun k => l0 k (pre ++ S ++ post) a b (wrap64 (a + 1))) (pre ++ isort le S ++ post) := by
  have hl' := hl
  simp at hl'
  rw [wr_ _ (by omega) (by omega)]
  cases S with
  | nil =>
    refine Ev.step (f := fun _ => some (pre ++ isort le [] ++ post)) (fun k => ?_) (Ev.now _)
    simp at hb
    rw [hF.e0, if_neg (by omega)]
    rfl
  | cons x R =>
    have := ins_l0 ht hcmp hF (pre := pre) (post := post) (a := a) (b := b) ha R [x] (a + 1) (by simp) (by simp at hb; omega) (by simp; simp at hl'; omega) (by simp)
    simpa using this

/-! the block swap -/
structure SwF (d : α) (l0 : Nat → List α → Int → Int → Int → Int → Option (List α)) : Prop where
  e0 : ∀ k xs a b n i, l0 (k + 1) xs a b n i = if i < n then (if 0 ≤ (wrap64 (b + i)) then (if (wrap64 (b + i)) < (xs.length : Int) then (if 0 ≤ (wrap64 (a + i)) then (if (wrap64 (a + i)) < (xs.length : Int) then
      (l0 k ((xs.set (wrap64 (a + i)).toNat (xs.getD (wrap64 (b + i)).toNat d)).set (wrap64 (b + i)).toNat (xs.getD (wrap64 (a + i)).toNat d)) a b n (wrap64 (i + 1))) else none) else none) else none) else none) else some xs
variable {s0 : Nat → List α → Int → Int → Int → Int → Option (List α)}
theorem sw_l0 (hF : SwF d s0) {a b n : Int} (ha0 : 0 ≤ a) (hb0 : 0 ≤ b) : ∀ (X Y pre mid post : List α) (i : Int), X.length = Y.length → 0 ≤ i → a + i = pre.length → b + i = pre.length + X.length + mid.length → n = i + X.length →
    (pre ++ X ++ mid ++ Y ++ post).length < 1099511627776 → Ev (fun k => s0 k (pre ++ X ++ mid ++ Y ++ post) a b n i) (pre ++ Y ++ mid ++ X ++ post)
  | [], Y, pre, mid, post, i, hxy, hi, ha, hb, hn, hl => by
    have : Y = [] := eq_of_len0 hxy.symm
    subst this
    refine Ev.step (f := fun _ => some (pre ++ [] ++ mid ++ [] ++ post)) (fun k => ?_) (Ev.now _)
    simp at hn
    rw [hF.e0, if_neg (by omega)]
  | x :: X, [], pre, mid, post, i, hxy, hi, ha, hb, hn, hl => by simp at hxy
  | x :: X, y :: Y, pre, mid, post, i, hxy, hi, ha, hb, hn, hl => by
    have hlen : ((pre ++ x :: X ++ mid ++ y :: Y ++ post).length : Int) = pre.length + X.length + 1 + mid.length + Y.length + 1 + post.length := by simp; omega
    simp at hxy hb hn
    have g1 : (pre ++ x :: X ++ mid ++ y :: Y ++ post).getD (a + i).toNat d = x := by
      have := gt_ (d := d) pre (X ++ mid ++ y :: Y ++ post) x (a + i) (by omega)
      simpa using this
    have g2 : (pre ++ x :: X ++ mid ++ y :: Y ++ post).getD (b + i).toNat d = y := by
      have := gt_ (d := d) (pre ++ x :: X ++ mid) (Y ++ post) y (b + i) (by simp; omega)
      simpa using this
    have g3 : ((pre ++ x :: X ++ mid ++ y :: Y ++ post).set (a + i).toNat y).set (b + i).toNat x = (pre ++ [y]) ++ X ++ (mid ++ [x]) ++ Y ++ post := by
      have := swp_ pre (X ++ mid) (Y ++ post) x y (a + i) (b + i) (by omega) (by simp; omega)
      simpa using this
    refine Ev.step (f := fun k => s0 k ((pre ++ [y]) ++ X ++ (mid ++ [x]) ++ Y ++ post) a b n (i + 1)) (fun k => by
      have hl2 := hlen
      rw [hF.e0, if_pos (by omega), wr_ (b + i) (by omega) (by omega), wr_ (a + i) (by omega) (by omega), wr_ (i + 1) (by omega) (by omega), if_pos (by omega), if_pos (by rw [hlen]; omega), if_pos (by omega), if_pos (by rw [hlen]; omega), g1, g2, g3]) ?_
    have := sw_l0 hF (a := a) (b := b) (n := n) ha0 hb0 X Y (pre ++ [y]) (mid ++ [x]) post (i + 1) hxy (by omega) (by simp; omega) (by simp; omega) (by omega) (by simp at hl ⊢; omega)
    simpa using this

/-! the turn of two neighbouring parts -/
structure RoF (s0 : Nat → List α → Int → Int → Int → Int → Option (List α)) (l0 : Nat → List α → Int → Int → Int → Option (List α)) : Prop where
  e0 : ∀ k xs m i j, l0 (k + 1) xs m i j = if i = j then ((s0 k xs (wrap64 (m - i)) m i 0).bind fun t => some t) else (if i > j then ((s0 k xs (wrap64 (m - i)) m j 0).bind fun t => (l0 k t m (wrap64 (i - j)) j)) else
      ((s0 k xs (wrap64 (m - i)) (wrap64 ((wrap64 (m + j)) - i)) i 0).bind fun t => (l0 k t m i (wrap64 (j - i)))))
variable {r0 : Nat → List α → Int → Int → Int → Option (List α)}
theorem ro_l0 (hS : SwF d s0) (hF : RoF s0 r0) {m : Int} : ∀ (n : Nat) (A B pre post : List α) (i j : Int), A.length + B.length ≤ n → 0 < A.length → 0 < B.length → m = pre.length + A.length → i = A.length → j = B.length →
    (pre ++ A ++ B ++ post).length < 1099511627776 → Ev (fun k => r0 k (pre ++ A ++ B ++ post) m i j) (pre ++ B ++ A ++ post)
  | 0, A, B, pre, post, i, j, hn, hA, hB, hm, hi, hj, hl => by omega
  | n + 1, A, B, pre, post, i, j, hn, hA, hB, hm, hi, hj, hl => by
    have hlen : ((pre ++ A ++ B ++ post).length : Int) = pre.length + A.length + B.length + post.length := by simp; omega
    rcases Nat.lt_trichotomy A.length B.length with h | h | h
    · -- B is longer: its last part comes to the front
      obtain ⟨B1, B2, rfl, h2⟩ : ∃ B1 B2, B = B1 ++ B2 ∧ B2.length = A.length := ⟨B.take (B.length - A.length), B.drop (B.length - A.length), (List.take_append_drop _ _).symm, by simp; omega⟩
      simp at hj hlen hn h hl
      refine Ev.step (f := fun k => (s0 k (pre ++ A ++ (B1 ++ B2) ++ post) (m - i) (m + j - i) i 0).bind fun t => r0 k t m i (j - i)) (fun k => by
        rw [hF.e0, if_neg (by omega), if_neg (by omega), wr_ (m - i) (by omega) (by omega), wr_ (m + j) (by omega) (by omega), wr_ (m + j - i) (by omega) (by omega), wr_ (j - i) (by omega) (by omega)]) ?_
      have hs := sw_l0 hS (a := m - i) (b := m + j - i) (n := i) (by omega) (by omega) A B2 pre B1 post 0 h2.symm (by omega) (by omega) (by omega) (by omega) (by simp; omega)
      have hs' : Ev (fun k => s0 k (pre ++ A ++ (B1 ++ B2) ++ post) (m - i) (m + j - i) i 0) (pre ++ B2 ++ B1 ++ (A ++ post)) := by simpa using hs
      refine Ev.bind hs' ?_
      have := ro_l0 hS hF (m := m) n B2 B1 pre (A ++ post) i (j - i) (by omega) (by omega) (by omega) (by omega) (by omega) (by omega) (by simp; omega)
      simpa using this
    · refine Ev.step (f := fun k => (s0 k (pre ++ A ++ B ++ post) (m - i) m i 0).bind fun t => some t) (fun k => by
        rw [hF.e0, if_pos (by omega), wr_ (m - i) (by omega) (by omega)]) ?_
      have hs := sw_l0 hS (a := m - i) (b := m) (n := i) (by omega) (by omega) A B pre [] post 0 h (by omega) (by omega) (by simp; omega) (by omega) (by simpa using hl)
      refine Ev.bind (a := pre ++ B ++ A ++ post) (by simpa using hs) (Ev.now _)
    · obtain ⟨A1, A2, rfl, h2⟩ : ∃ A1 A2, A = A1 ++ A2 ∧ A1.length = B.length := ⟨A.take B.length, A.drop B.length, (List.take_append_drop _ _).symm, by simp; omega⟩
      simp at hi hlen hn h hl hm
      refine Ev.step (f := fun k => (s0 k (pre ++ (A1 ++ A2) ++ B ++ post) (m - i) m j 0).bind fun t => r0 k t m (i - j) j) (fun k => by
        rw [hF.e0, if_neg (by omega), if_pos (by omega), wr_ (m - i) (by omega) (by omega), wr_ (i - j) (by omega) (by omega)]) ?_
      have hs := sw_l0 hS (a := m - i) (b := m) (n := j) (by omega) (by omega) A1 B pre A2 post 0 h2 (by omega) (by omega) (by omega) (by omega) (by simp; omega)
      have hs' : Ev (fun k => s0 k (pre ++ (A1 ++ A2) ++ B ++ post) (m - i) m j 0) ((pre ++ B) ++ A2 ++ A1 ++ post) := by simpa using hs
      refine Ev.bind hs' ?_
      have := ro_l0 hS hF (m := m) n A2 A1 (pre ++ B) post (i - j) j (by omega) (by omega) (by omega) (by simp; omega) (by omega) (by omega) (by simp; omega)
      simpa using this
end SortB
section SortC
variable {α : Type} {d : α} {le : α → α → Bool} {cmp : α → α → Option Int}
abbrev hlf (x y : Int) : Int := wrap64 ((IntKind.u64.wrap (wrap64 (x + y))) / 2)
structure SyF (d : α) (cmp : α → α → Option Int) (r0 : Nat → List α → Int → Int → Int → Option (List α)) (l0 : Nat → List α → Int → Int → Int → Option (List α)) (l1 : Nat → List α → Int → Int → Option (List α)) (l2 : Nat → List α → Int → Int → Int → Option (List α)) (l3 : Nat → List α → Int → Int → Option (List α))
    (j4 : Nat → List α → Int → Int → Int → Int → Int → Int → Int → Option (List α)) (l4 : Nat → List α → Int → Int → Int → Int → Int → Int → Int → Int → Option (List α)) (j6 : Nat → List α → Int → Int → Int → Int → Int → Int → Bool → Option (List α)) (j7 : Nat → List α → Int → Int → Int → Int → Int → Option (List α)) (j8 : Nat → List α → Int → Int → Int → Int → Int → Bool → Option (List α))
    (f : Nat → List α → Int → Int → Int → Option (List α)) : Prop where
  ef : ∀ k xs a m b, f (k + 1) xs a m b = if wrap64 (m - a) = 1 then l0 k xs a m b else (if wrap64 (b - m) = 1 then l2 k xs m a m else (if m > hlf a b then j4 k xs a m b (hlf a b) (wrap64 (hlf a b + m)) (wrap64 (wrap64 (hlf a b + m) - b)) (hlf a b) else j4 k xs a m b (hlf a b) (wrap64 (hlf a b + m)) a m))
  e0 : ∀ k xs a i j, l0 (k + 1) xs a i j = if i < j then (if 0 ≤ hlf i j then (if hlf i j < (xs.length : Int) then (if 0 ≤ a then (if a < (xs.length : Int) then ((cmp (xs.getD (hlf i j).toNat d) (xs.getD a.toNat d)).bind fun t => (if t < 0 then l0 k xs a (wrap64 (hlf i j + 1)) j else l0 k xs a i (hlf i j))) else none) else none) else none) else none) else l1 k xs i a
  e1 : ∀ k xs i q, l1 (k + 1) xs i q = if q < wrap64 (i - 1) then (if 0 ≤ wrap64 (q + 1) then (if wrap64 (q + 1) < (xs.length : Int) then (if 0 ≤ q then (if q < (xs.length : Int) then l1 k ((xs.set q.toNat (xs.getD (wrap64 (q + 1)).toNat d)).set (wrap64 (q + 1)).toNat (xs.getD q.toNat d)) i (wrap64 (q + 1)) else none) else none) else none) else none) else some xs
  e2 : ∀ k xs m i j, l2 (k + 1) xs m i j = if i < j then (if 0 ≤ m then (if m < (xs.length : Int) then (if 0 ≤ hlf i j then (if hlf i j < (xs.length : Int) then ((cmp (xs.getD m.toNat d) (xs.getD (hlf i j).toNat d)).bind fun t => (if t < 0 then l2 k xs m i (hlf i j) else l2 k xs m (wrap64 (hlf i j + 1)) j)) else none) else none) else none) else none) else l3 k xs i m
  e3 : ∀ k xs i q, l3 (k + 1) xs i q = if q > i then (if 0 ≤ wrap64 (q - 1) then (if wrap64 (q - 1) < (xs.length : Int) then (if 0 ≤ q then (if q < (xs.length : Int) then l3 k ((xs.set q.toNat (xs.getD (wrap64 (q - 1)).toNat d)).set (wrap64 (q - 1)).toNat (xs.getD q.toNat d)) i (wrap64 (q - 1)) else none) else none) else none) else none) else some xs
  ej4 : ∀ k xs a m b mid n st r, j4 (k + 1) xs a m b mid n st r = l4 k xs a m b mid n st r (wrap64 (n - 1))
  e4 : ∀ k xs a m b mid n st r p, l4 (k + 1) xs a m b mid n st r p = if st < r then (if 0 ≤ wrap64 (p - hlf st r) then (if wrap64 (p - hlf st r) < (xs.length : Int) then (if 0 ≤ hlf st r then (if hlf st r < (xs.length : Int) then ((cmp (xs.getD (wrap64 (p - hlf st r)).toNat d) (xs.getD (hlf st r).toNat d)).bind fun t => (if t < 0 then l4 k xs a m b mid n st (hlf st r) p else l4 k xs a m b mid n (wrap64 (hlf st r + 1)) r p)) else none) else none) else none) else none)
    else (if st < m then j6 k xs a m b mid st (wrap64 (n - st)) (decide (m < wrap64 (n - st))) else j6 k xs a m b mid st (wrap64 (n - st)) false)
  ej6 : ∀ k xs a m b mid st en c, j6 (k + 1) xs a m b mid st en c = if c = true then ((r0 k xs m (wrap64 (m - st)) (wrap64 (en - m))).bind fun t => j7 k t a b mid st en) else j7 k xs a b mid st en
  ej7 : ∀ k xs a b mid st en, j7 (k + 1) xs a b mid st en = if a < st then j8 k xs a b mid st en (decide (st < mid)) else j8 k xs a b mid st en false
  ej8 : ∀ k xs a b mid st en c, j8 (k + 1) xs a b mid st en c = if c = true then ((f k xs a st mid).bind fun t => (if mid < en then (if en < b then ((f k t mid en b).bind fun u => some u) else some t) else some t)) else (if mid < en then (if en < b then ((f k xs mid en b).bind fun u => some u) else some xs) else some xs)
variable {s0 : Nat → List α → Int → Int → Int → Int → Option (List α)} {r0 : Nat → List α → Int → Int → Int → Option (List α)} {l0 : Nat → List α → Int → Int → Int → Option (List α)} {l1 : Nat → List α → Int → Int → Option (List α)} {l2 : Nat → List α → Int → Int → Int → Option (List α)} {l3 : Nat → List α → Int → Int → Option (List α)}
    {j4 : Nat → List α → Int → Int → Int → Int → Int → Int → Int → Option (List α)} {l4 : Nat → List α → Int → Int → Int → Int → Int → Int → Int → Int → Option (List α)} {j6 : Nat → List α → Int → Int → Int → Int → Int → Int → Bool → Option (List α)} {j7 : Nat → List α → Int → Int → Int → Int → Int → Option (List α)} {j8 : Nat → List α → Int → Int → Int → Int → Int → Bool → Option (List α)}
    {f : Nat → List α → Int → Int → Int → Option (List α)}
theorem hlf_ (x y : Int) (hx : 0 ≤ x) (hy : 0 ≤ y) (h : x + y < 9223372036854775808) : hlf x y = (x + y) / 2 := half_ x y hx hy h
theorem sy_l1 (hF : SyF d cmp r0 l0 l1 l2 l3 j4 l4 j6 j7 j8 f) (x : α) {i : Int} : ∀ (R pre rest : List α) (q : Int), q = pre.length → i = q + R.length + 1 → (pre ++ x :: (R ++ rest)).length < 1099511627776 →
    Ev (fun k => l1 k (pre ++ x :: (R ++ rest)) i q) (pre ++ R ++ x :: rest)
  | [], pre, rest, q, hq, hi, hl => by
    refine Ev.step (f := fun _ => some (pre ++ [] ++ x :: rest)) (fun k => ?_) (Ev.now _)
    simp at hi hl
    rw [hF.e1, wr_ _ (by omega) (by omega), if_neg (by omega)]
    simp
  | y :: R, pre, rest, q, hq, hi, hl => by
    have hlen : ((pre ++ x :: (y :: R ++ rest)).length : Int) = pre.length + R.length + 2 + rest.length := by simp; omega
    simp at hi hl
    have g1 : (pre ++ x :: (y :: R ++ rest)).getD q.toNat d = x := gt_ (d := d) pre (y :: R ++ rest) x q hq
    have g2 : (pre ++ x :: (y :: R ++ rest)).getD (q + 1).toNat d = y := by
      have := gt_ (d := d) (pre ++ [x]) (R ++ rest) y (q + 1) (by simp; omega)
      simpa using this
    have g3 : ((pre ++ x :: (y :: R ++ rest)).set q.toNat y).set (q + 1).toNat x = (pre ++ [y]) ++ x :: (R ++ rest) := by
      have := swp_ pre [] (R ++ rest) x y q (q + 1) hq (by simp; omega)
      simpa using this
    refine Ev.step (f := fun k => l1 k ((pre ++ [y]) ++ x :: (R ++ rest)) i (q + 1)) (fun k => by
      rw [hF.e1, wr_ (i - 1) (by omega) (by omega), if_pos (by omega), wr_ (q + 1) (by omega) (by omega), if_pos (by omega), if_pos (by rw [hlen]; omega), if_pos (by omega), if_pos (by rw [hlen]; omega), g1, g2, g3]) ?_
    have := sy_l1 hF x (i := i) R (pre ++ [y]) rest (q + 1) (by simp; omega) (by omega) (by simp; omega)
    simpa using this
theorem sy_l3 (hF : SyF d cmp r0 l0 l1 l2 l3 j4 l4 j6 j7 j8 f) (x : α) {i : Int} {pre : List α} (hi : i = pre.length) : ∀ (n : Nat) (R rest : List α) (q : Int), R.length = n → q = i + R.length → (pre ++ R ++ x :: rest).length < 1099511627776 →
    Ev (fun k => l3 k (pre ++ R ++ x :: rest) i q) (pre ++ x :: (R ++ rest))
  | 0, R, rest, q, hn, hq, hl => by
    have := eq_of_len0 hn
    subst this
    refine Ev.step (f := fun _ => some (pre ++ x :: ([] ++ rest))) (fun k => ?_) (Ev.now _)
    simp at hq
    rw [hF.e3, if_neg (by omega)]
    simp
  | n + 1, R, rest, q, hn, hq, hl => by
    obtain ⟨S, y, rfl⟩ : ∃ S y, R = S ++ [y] := ⟨R.dropLast, R.getLast (by intro e; simp [e] at hn), (List.dropLast_concat_getLast _).symm⟩
    have hlen : ((pre ++ (S ++ [y]) ++ x :: rest).length : Int) = pre.length + S.length + 2 + rest.length := by simp; omega
    simp at hn hq hl
    have g1 : (pre ++ (S ++ [y]) ++ x :: rest).getD q.toNat d = x := gt_ (d := d) (pre ++ (S ++ [y])) rest x q (by simp; omega)
    have g2 : (pre ++ (S ++ [y]) ++ x :: rest).getD (q - 1).toNat d = y := by
      have := gt_ (d := d) (pre ++ S) (x :: rest) y (q - 1) (by simp; omega)
      simpa using this
    have g3 : ((pre ++ (S ++ [y]) ++ x :: rest).set q.toNat y).set (q - 1).toNat x = pre ++ S ++ x :: (y :: rest) := by
      have := swp'_ (pre ++ S) [] rest y x (q - 1) q (by simp; omega) (by simp; omega)
      simpa using this
    refine Ev.step (f := fun k => l3 k (pre ++ S ++ x :: (y :: rest)) i (q - 1)) (fun k => by
      rw [hF.e3, if_pos (by omega), wr_ (q - 1) (by omega) (by omega), if_pos (by omega), if_pos (by rw [hlen]; omega), if_pos (by omega), if_pos (by rw [hlen]; omega), g1, g2, g3]) ?_
    have := sy_l3 hF x hi n S (y :: rest) (q - 1) hn (by omega) (by simp; omega)
    simpa using this
/-- The first part is one element: where it belongs in the second part. -/
theorem sy_l0 (ht : TP le) (hcmp : Cmp le cmp) (hF : SyF d cmp r0 l0 l1 l2 l3 j4 l4 j6 j7 j8 f) {pre B post r : List α} {x : α} {a : Int} (ha : a = pre.length) (hl : (pre ++ x :: (B ++ post)).length < 1099511627776) (hB : Srt le B)
    (hk : ∀ C1 C2, B = C1 ++ C2 → (∀ z ∈ C1, le x z = false) → (∀ z ∈ C2, le x z = true) → Ev (fun k => l1 k (pre ++ x :: (B ++ post)) (a + 1 + C1.length) a) r) :
    ∀ (n : Nat) (B1 M B2 : List α) (i j : Int), M.length ≤ n → B = B1 ++ M ++ B2 → (∀ z ∈ B1, le x z = false) → (∀ z ∈ B2, le x z = true) → i = a + 1 + B1.length → j = i + M.length → Ev (fun k => l0 k (pre ++ x :: (B ++ post)) a i j) r
  | n, B1, [], B2, i, j, hn, hb, h1, h2, hi, hj => by
    refine Ev.step (f := fun k => l1 k (pre ++ x :: (B ++ post)) i a) (fun k => ?_) ?_
    · simp at hj
      rw [hF.e0, if_neg (by omega)]
    · have := hk B1 B2 (by simpa using hb) h1 h2
      rw [hi]; exact this
  | 0, B1, m :: M, B2, i, j, hn, hb, h1, h2, hi, hj => by simp at hn
  | n + 1, B1, m :: M, B2, i, j, hn, hb, h1, h2, hi, hj => by
    have hlen : ((pre ++ x :: (B ++ post)).length : Int) = pre.length + B1.length + (M.length + 1) + B2.length + 1 + post.length := by rw [hb]; simp; omega
    simp only [List.length_cons] at hn hj
    have hh : hlf i j = (i + j) / 2 := hlf_ i j (by omega) (by omega) (by omega)
    obtain ⟨M1, z, M2, hM, hM1⟩ : ∃ M1 z M2, m :: M = M1 ++ z :: M2 ∧ (M1.length : Int) = (i + j) / 2 - i := by
      have hlt : ((i + j) / 2 - i).toNat < (m :: M).length := by simp; omega
      refine ⟨(m :: M).take ((i + j) / 2 - i).toNat, (m :: M)[((i + j) / 2 - i).toNat], (m :: M).drop (((i + j) / 2 - i).toNat + 1), ?_, ?_⟩
      · rw [← List.drop_eq_getElem_cons hlt, List.take_append_drop]
      · rw [List.length_take]; simp; omega
    have hMl : (M1.length : Int) + 1 + M2.length = M.length + 1 := by have := congrArg List.length hM; simp at this; omega
    obtain ⟨t, c1, c2⟩ := hcmp z x
    have g1 : (pre ++ x :: (B ++ post)).getD ((i + j) / 2).toNat d = z := by
      have := gt_ (d := d) (pre ++ x :: (B1 ++ M1)) (M2 ++ B2 ++ post) z ((i + j) / 2) (by simp; omega)
      rw [hb, hM]; simpa using this
    have g2 : (pre ++ x :: (B ++ post)).getD a.toNat d = x := gt_ (d := d) pre (B ++ post) x a ha
    refine Ev.step (f := fun k => if t < 0 then l0 k (pre ++ x :: (B ++ post)) a ((i + j) / 2 + 1) j else l0 k (pre ++ x :: (B ++ post)) a i ((i + j) / 2)) (fun k => by
      rw [hF.e0, if_pos (by omega), hh, if_pos (by omega), if_pos (by rw [hlen]; omega), if_pos (by omega), if_pos (by rw [hlen]; omega), g1, g2, c1, wr_ ((i + j) / 2 + 1) (by omega) (by omega)]
      rfl) ?_
    have hs : Srt le (B1 ++ (M1 ++ z :: M2) ++ B2) := by rw [← hM, ← hb]; exact hB
    have hs1 := List.pairwise_append.1 hs
    have hs2 := List.pairwise_append.1 (List.pairwise_append.1 hs1.1).2.1
    have hs3 := List.pairwise_cons.1 hs2.2.1
    by_cases ht0 : t < 0
    · simp only [if_pos ht0]
      have hxz := c2.1 ht0
      refine sy_l0 ht hcmp hF ha hl hB hk n (B1 ++ (M1 ++ [z])) M2 B2 _ _ (by omega) (by rw [hb, hM]; simp) (fun u hu => ?_) h2 (by simp; omega) (by omega)
      rcases List.mem_append.1 hu with hu | hu
      · exact h1 u hu
      · have huz : le u z = true := by
          rcases List.mem_append.1 hu with hu | hu
          · exact hs2.2.2 u hu z (by simp)
          · simp at hu; subst hu; exact ht.refl _
        cases hxu : le x u
        · rfl
        · rw [ht.trans hxu huz] at hxz; cases hxz
    · simp only [if_neg ht0]
      have hxz : le x z = true := by
        cases h : le x z
        · exact absurd (c2.2 h) ht0
        · rfl
      refine sy_l0 ht hcmp hF ha hl hB hk n B1 M1 (z :: M2 ++ B2) _ _ (by omega) (by rw [hb, hM]; simp) h1 (fun u hu => ?_) hi (by omega)
      rcases List.mem_append.1 hu with hu | hu
      · rcases List.mem_cons.1 hu with rfl | hu
        · exact hxz
        · exact ht.trans hxz (hs3.1 u hu)
      · exact h2 u hu
/-- The second part is one element: where it belongs in the first part. -/
theorem sy_l2 (ht : TP le) (hcmp : Cmp le cmp) (hF : SyF d cmp r0 l0 l1 l2 l3 j4 l4 j6 j7 j8 f) {pre B post r : List α} {x : α} {a m : Int} (ha : a = pre.length) (hm : m = a + B.length) (hl : (pre ++ B ++ x :: post).length < 1099511627776) (hB : Srt le B)
    (hk : ∀ C1 C2, B = C1 ++ C2 → (∀ z ∈ C1, le z x = true) → (∀ z ∈ C2, le z x = false) → Ev (fun k => l3 k (pre ++ B ++ x :: post) (a + C1.length) m) r) :
    ∀ (n : Nat) (B1 M B2 : List α) (i j : Int), M.length ≤ n → B = B1 ++ M ++ B2 → (∀ z ∈ B1, le z x = true) → (∀ z ∈ B2, le z x = false) → i = a + B1.length → j = i + M.length → Ev (fun k => l2 k (pre ++ B ++ x :: post) m i j) r
  | n, B1, [], B2, i, j, hn, hb, h1, h2, hi, hj => by
    refine Ev.step (f := fun k => l3 k (pre ++ B ++ x :: post) i m) (fun k => ?_) ?_
    · simp at hj
      rw [hF.e2, if_neg (by omega)]
    · have := hk B1 B2 (by simpa using hb) h1 h2
      rw [hi]; exact this
  | 0, B1, m' :: M, B2, i, j, hn, hb, h1, h2, hi, hj => by simp at hn
  | n + 1, B1, m' :: M, B2, i, j, hn, hb, h1, h2, hi, hj => by
    have hlen : ((pre ++ B ++ x :: post).length : Int) = pre.length + B1.length + (M.length + 1) + B2.length + 1 + post.length := by rw [hb]; simp; omega
    have hBl : (B.length : Int) = B1.length + (M.length + 1) + B2.length := by rw [hb]; simp; omega
    simp only [List.length_cons] at hn hj
    have hh : hlf i j = (i + j) / 2 := hlf_ i j (by omega) (by omega) (by omega)
    obtain ⟨M1, z, M2, hM, hM1⟩ : ∃ M1 z M2, m' :: M = M1 ++ z :: M2 ∧ (M1.length : Int) = (i + j) / 2 - i := by
      have hlt : ((i + j) / 2 - i).toNat < (m' :: M).length := by simp; omega
      refine ⟨(m' :: M).take ((i + j) / 2 - i).toNat, (m' :: M)[((i + j) / 2 - i).toNat], (m' :: M).drop (((i + j) / 2 - i).toNat + 1), ?_, ?_⟩
      · rw [← List.drop_eq_getElem_cons hlt, List.take_append_drop]
      · rw [List.length_take]; simp; omega
    have hMl : (M1.length : Int) + 1 + M2.length = M.length + 1 := by have := congrArg List.length hM; simp at this; omega
    obtain ⟨t, c1, c2⟩ := hcmp x z
    have g1 : (pre ++ B ++ x :: post).getD ((i + j) / 2).toNat d = z := by
      have := gt_ (d := d) (pre ++ (B1 ++ M1)) (M2 ++ B2 ++ x :: post) z ((i + j) / 2) (by simp; omega)
      rw [hb, hM]; simpa using this
    have g2 : (pre ++ B ++ x :: post).getD m.toNat d = x := gt_ (d := d) (pre ++ B) post x m (by simp; omega)
    refine Ev.step (f := fun k => if t < 0 then l2 k (pre ++ B ++ x :: post) m i ((i + j) / 2) else l2 k (pre ++ B ++ x :: post) m ((i + j) / 2 + 1) j) (fun k => by
      rw [hF.e2, if_pos (by omega), hh, if_pos (by omega), if_pos (by rw [hlen]; omega), if_pos (by omega), if_pos (by rw [hlen]; omega), g1, g2, c1, wr_ ((i + j) / 2 + 1) (by omega) (by omega)]
      rfl) ?_
    have hs : Srt le (B1 ++ (M1 ++ z :: M2) ++ B2) := by rw [← hM, ← hb]; exact hB
    have hs1 := List.pairwise_append.1 hs
    have hs2 := List.pairwise_append.1 (List.pairwise_append.1 hs1.1).2.1
    have hs3 := List.pairwise_cons.1 hs2.2.1
    by_cases ht0 : t < 0
    · simp only [if_pos ht0]
      have hxz := c2.1 ht0
      refine sy_l2 ht hcmp hF ha hm hl hB hk n B1 M1 (z :: M2 ++ B2) _ _ (by omega) (by rw [hb, hM]; simp) h1 (fun u hu => ?_) hi (by omega)
      rcases List.mem_append.1 hu with hu | hu
      · rcases List.mem_cons.1 hu with rfl | hu
        · exact hxz
        · cases hux : le u x
          · rfl
          · rw [ht.trans (hs3.1 u hu) hux] at hxz; cases hxz
      · exact h2 u hu
    · simp only [if_neg ht0]
      have hxz : le z x = true := by
        cases h : le z x
        · exact absurd (c2.2 h) ht0
        · rfl
      refine sy_l2 ht hcmp hF ha hm hl hB hk n (B1 ++ (M1 ++ [z])) M2 B2 _ _ (by omega) (by rw [hb, hM]; simp) (fun u hu => ?_) h2 (by simp; omega) (by omega)
      rcases List.mem_append.1 hu with hu | hu
      · exact h1 u hu
      · rcases List.mem_append.1 hu with hu | hu
        · exact ht.trans (hs2.2.2 u hu z (by simp)) hxz
        · simp at hu; subst hu; exact hxz
end SortC
section SortD
variable {α : Type} {d : α} {le : α → α → Bool} {cmp : α → α → Option Int}
variable {s0 : Nat → List α → Int → Int → Int → Int → Option (List α)} {r0 : Nat → List α → Int → Int → Int → Option (List α)} {l0 : Nat → List α → Int → Int → Int → Option (List α)} {l1 : Nat → List α → Int → Int → Option (List α)} {l2 : Nat → List α → Int → Int → Int → Option (List α)} {l3 : Nat → List α → Int → Int → Option (List α)}
    {j4 : Nat → List α → Int → Int → Int → Int → Int → Int → Int → Option (List α)} {l4 : Nat → List α → Int → Int → Int → Int → Int → Int → Int → Int → Option (List α)} {j6 : Nat → List α → Int → Int → Int → Int → Int → Int → Bool → Option (List α)} {j7 : Nat → List α → Int → Int → Int → Int → Int → Option (List α)} {j8 : Nat → List α → Int → Int → Int → Int → Int → Bool → Option (List α)}
    {f : Nat → List α → Int → Int → Int → Option (List α)}
/-- The search in the general case: P(c) is 'what stands at p - c is below what stands at c'; it is false below the answer and true from there on. -/
theorem sy_l4 (hcmp : Cmp le cmp) (hF : SyF d cmp r0 l0 l1 l2 l3 j4 l4 j6 j7 j8 f) {xs r : List α} {a m b mid nn p s1 s2 : Int} (hl : xs.length < 1099511627776) (h0 : 0 ≤ s1) (h2 : s2 ≤ xs.length)
    (hp : ∀ c, s1 ≤ c → c < s2 → 0 ≤ p - c ∧ p - c < xs.length)
    (hmono : ∀ c e, s1 ≤ c → c ≤ e → e < s2 → le (xs.getD c.toNat d) (xs.getD (p - c).toNat d) = false → le (xs.getD e.toNat d) (xs.getD (p - e).toNat d) = false)
    (hk : ∀ st, s1 ≤ st → st ≤ s2 → (s1 < st → le (xs.getD (st - 1).toNat d) (xs.getD (p - (st - 1)).toNat d) = true) → (st < s2 → le (xs.getD st.toNat d) (xs.getD (p - st).toNat d) = false) →
      Ev (fun k => if st < m then j6 k xs a m b mid st (wrap64 (nn - st)) (decide (m < wrap64 (nn - st))) else j6 k xs a m b mid st (wrap64 (nn - st)) false) r) :
    ∀ (n : Nat) (st e : Int), s1 ≤ st → st ≤ e → e ≤ s2 → (e - st).toNat ≤ n → (s1 < st → le (xs.getD (st - 1).toNat d) (xs.getD (p - (st - 1)).toNat d) = true) → (e < s2 → le (xs.getD e.toNat d) (xs.getD (p - e).toNat d) = false) →
    Ev (fun k => l4 k xs a m b mid nn st e p) r := by
  intro n
  induction n with
  | zero =>
    intro st e q1 q2 q3 q4 q5 q6
    have : st = e := by omega
    subst this
    exact Ev.step (fun k => by rw [hF.e4, if_neg (by omega)]) (hk st q1 q3 q5 q6)
  | succ n ih =>
    intro st e q1 q2 q3 q4 q5 q6
    by_cases hse : st = e
    · subst hse
      exact Ev.step (fun k => by rw [hF.e4, if_neg (by omega)]) (hk st q1 q3 q5 q6)
    have hh : hlf st e = (st + e) / 2 := hlf_ st e (by omega) (by omega) (by omega)
    obtain ⟨c, hc⟩ : ∃ c, (st + e) / 2 = c := ⟨_, rfl⟩
    have hc1 : st ≤ c := by omega
    have hc2 : c < e := by omega
    have hpc := hp c (by omega) (by omega)
    obtain ⟨t, c1, c2⟩ := hcmp (xs.getD (p - c).toNat d) (xs.getD c.toNat d)
    refine Ev.step (f := fun k => if t < 0 then l4 k xs a m b mid nn st c p else l4 k xs a m b mid nn (c + 1) e p) (fun k => by
      rw [hF.e4, if_pos (by omega), hh, hc, wr_ (p - c) (by omega) (by omega), if_pos (by omega), if_pos (by omega), if_pos (by omega), if_pos (by omega), c1, wr_ (c + 1) (by omega) (by omega)]
      rfl) ?_
    by_cases ht0 : t < 0
    · simp only [if_pos ht0]
      exact ih st c q1 hc1 (by omega) (by omega) q5 (fun _ => c2.1 ht0)
    · simp only [if_neg ht0]
      refine ih (c + 1) e (by omega) (by omega) q3 (by omega) (fun _ => ?_) q6
      rw [show c + 1 - 1 = c by omega]
      cases h : le (xs.getD c.toNat d) (xs.getD (p - c).toNat d)
      · exact absurd (c2.2 h) ht0
      · rfl
/-- What stands at a place of one of the parts. -/
theorem gA_ (pre A rest : List α) (c : Int) (i : Nat) (h : i < A.length) (hc : c = pre.length + i) : (pre ++ A ++ rest).getD c.toNat d = A[i] := by
  subst hc
  rw [List.getD_eq_getElem?_getD, show ((pre.length : Int) + (i : Int)).toNat = pre.length + i by omega, List.append_assoc, List.getElem?_append_right (by omega), show pre.length + i - pre.length = i by omega, List.getElem?_append_left h, List.getElem?_eq_getElem h]
  rfl
theorem srt_get {A : List α} (h : Srt le A) (ht : TP le) {i j : Nat} (hij : i ≤ j) (hj : j < A.length) : le (A[i]'(by omega)) A[j] = true := by
  rcases Nat.lt_or_eq_of_le hij with h1 | rfl
  · exact (List.pairwise_iff_getElem.1 h) i j (by omega) hj h1
  · exact ht.refl _
theorem sy_f (ht : TP le) (hcmp : Cmp le cmp) (hS : SwF d s0) (hR : RoF s0 r0) (hF : SyF d cmp r0 l0 l1 l2 l3 j4 l4 j6 j7 j8 f) : ∀ (n : Nat) (A B pre post : List α) (a m b : Int), A.length + B.length ≤ n → 0 < A.length → 0 < B.length → a = pre.length → m = a + A.length → b = m + B.length →
    (pre ++ A ++ B ++ post).length < 1099511627776 → Srt le A → Srt le B → Ev (fun k => f k (pre ++ A ++ B ++ post) a m b) (pre ++ isort le (A ++ B) ++ post) := by
  intro n
  induction n with
  | zero => intro A B pre post a m b hn hA hB; omega
  | succ n ih =>
  intro A B pre post a m b hn hA hB ha hm hb hl sA sB
  have hlen : ((pre ++ A ++ B ++ post).length : Int) = pre.length + A.length + B.length + post.length := by simp; omega
  have hl' := hl
  simp only [List.length_append] at hl'
  by_cases hA1 : A.length = 1
  · -- one element, then the second part
    obtain ⟨x, rfl⟩ : ∃ x, A = [x] := by
      match A, hA1 with
      | [x], _ => exact ⟨x, rfl⟩
    have e1 : pre ++ [x] ++ B ++ post = pre ++ x :: (B ++ post) := by simp
    rw [e1] at hl ⊢
    simp at hm
    refine Ev.step (f := fun k => l0 k (pre ++ x :: (B ++ post)) a m b) (fun k => by
      rw [hF.ef, wr_ (m - a) (by omega) (by omega), if_pos (by omega)]) ?_
    refine sy_l0 ht hcmp hF ha hl sB (fun C1 C2 hC h1 h2 => ?_) B.length [] B [] m b (by omega) (by simp) (by simp) (by simp) (by simp; omega) (by omega)
    subst hC
    have h3 := sy_l1 hF x (i := a + 1 + C1.length) C1 pre (C2 ++ post) a ha (by omega) (by simp at hl ⊢; omega)
    have h4 : C1 ++ x :: C2 = isort le ([x] ++ (C1 ++ C2)) := by
      have hs := List.pairwise_append.1 sB
      refine isort_eq ht (List.pairwise_append.2 ⟨hs.1, List.pairwise_cons.2 ⟨h2, hs.2.1⟩, fun p hp q hq => ?_⟩) ?_
      · rcases List.mem_cons.1 hq with rfl | hq
        · exact ht.of_not (h1 p hp)
        · exact hs.2.2 p hp q hq
      · have := SEq.append (SEq.swap ht (A := [x]) (B := C1) (fun p hp q hq => by simp at hp; subst hp; exact h1 q hq)).symm (SEq.refl C2)
        simpa using this
    rw [← h4]
    simpa using h3
  by_cases hB1 : B.length = 1
  · obtain ⟨x, rfl⟩ : ∃ x, B = [x] := by
      match B, hB1 with
      | [x], _ => exact ⟨x, rfl⟩
    have e1 : pre ++ A ++ [x] ++ post = pre ++ A ++ x :: post := by simp
    rw [e1] at hl ⊢
    simp at hb
    refine Ev.step (f := fun k => l2 k (pre ++ A ++ x :: post) m a m) (fun k => by
      rw [hF.ef, wr_ (m - a) (by omega) (by omega), if_neg (by omega), wr_ (b - m) (by omega) (by omega), if_pos (by omega)]) ?_
    refine sy_l2 ht hcmp hF ha hm hl sA (fun C1 C2 hC h1 h2 => ?_) A.length [] A [] a m (by omega) (by simp) (by simp) (by simp) (by simp) (by omega)
    subst hC
    have h3 := sy_l3 hF x (i := a + C1.length) (pre := pre ++ C1) (by simp; omega) C2.length C2 post m rfl (by simp at hm; omega) (by simp at hl ⊢; omega)
    have h4 : C1 ++ x :: C2 = isort le ((C1 ++ C2) ++ [x]) := by
      have hs := List.pairwise_append.1 sA
      refine isort_eq ht (List.pairwise_append.2 ⟨hs.1, List.pairwise_cons.2 ⟨fun z hz => ht.of_not (h2 z hz), hs.2.1⟩, fun p hp q hq => ?_⟩) ?_
      · rcases List.mem_cons.1 hq with rfl | hq
        · exact h1 p hp
        · exact hs.2.2 p hp q hq
      · have := SEq.append (SEq.refl C1) (SEq.swap ht (A := C2) (B := [x]) (fun p hp q hq => by simp at hq; subst hq; exact h2 p hp)).symm
        simpa using this
    rw [← h4]
    simpa using h3
  -- the general case
  have hh : hlf a b = (a + b) / 2 := hlf_ a b (by omega) (by omega) (by omega)
  obtain ⟨mid, hmid⟩ : ∃ mid, (a + b) / 2 = mid := ⟨_, rfl⟩
  have hmid1 : a < mid := by omega
  have hmid2 : mid < b := by omega
  obtain ⟨xs, hxs⟩ : ∃ xs, xs = pre ++ A ++ B ++ post := ⟨_, rfl⟩
  have hxl : (xs.length : Int) = pre.length + A.length + B.length + post.length := by rw [hxs]; exact hlen
  have getA : ∀ (c : Int) (i : Nat) (h : i < A.length), c = a + i → xs.getD c.toNat d = A[i] := fun c i h hc => by
    rw [hxs, List.append_assoc (pre ++ A)]; exact gA_ pre A (B ++ post) c i h (by omega)
  have getB : ∀ (c : Int) (i : Nat) (h : i < B.length), c = m + i → xs.getD c.toNat d = B[i] := fun c i h hc => by
    rw [hxs]; exact gA_ (pre ++ A) B post c i h (by simp; omega)
  have leA : ∀ c e : Int, a ≤ c → c ≤ e → e < m → le (xs.getD c.toNat d) (xs.getD e.toNat d) = true := fun c e h1 h2 h3 => by
    rw [getA c (c - a).toNat (by omega) (by omega), getA e (e - a).toNat (by omega) (by omega)]
    exact srt_get sA ht (by omega) (by omega)
  have leB : ∀ c e : Int, m ≤ c → c ≤ e → e < b → le (xs.getD c.toNat d) (xs.getD e.toNat d) = true := fun c e h1 h2 h3 => by
    rw [getB c (c - m).toNat (by omega) (by omega), getB e (e - m).toNat (by omega) (by omega)]
    exact srt_get sB ht (by omega) (by omega)
  -- what follows the search
  have follow : ∀ st : Int, a ≤ st → st ≤ m → m ≤ mid + m - st → mid + m - st ≤ b → (a < st → mid + m - st < b → le (xs.getD (st - 1).toNat d) (xs.getD (mid + m - st).toNat d) = true) → (st < m → m < mid + m - st → le (xs.getD st.toNat d) (xs.getD (mid + m - 1 - st).toNat d) = false) →
      Ev (fun k => if st < m then j6 k xs a m b mid st (wrap64 (mid + m - st)) (decide (m < wrap64 (mid + m - st))) else j6 k xs a m b mid st (wrap64 (mid + m - st)) false) (pre ++ isort le (A ++ B) ++ post) := by
    intro st q1 q2 q3 q4 q5 q6
    rw [wr_ (mid + m - st) (by omega) (by omega)]
    obtain ⟨en, hen⟩ : ∃ en, mid + m - st = en := ⟨_, rfl⟩
    rw [hen] at q3 q4 q5 q6 ⊢
    rw [show mid + m - 1 - st = en - 1 by omega] at q6
    obtain ⟨A1, A2, hA12, hA1l⟩ : ∃ A1 A2, A = A1 ++ A2 ∧ (A1.length : Int) = st - a := ⟨A.take (st - a).toNat, A.drop (st - a).toNat, (List.take_append_drop _ _).symm, by rw [List.length_take]; omega⟩
    obtain ⟨B1, B2, hB12, hB1l⟩ : ∃ B1 B2, B = B1 ++ B2 ∧ (B1.length : Int) = en - m := ⟨B.take (en - m).toNat, B.drop (en - m).toNat, (List.take_append_drop _ _).symm, by rw [List.length_take]; omega⟩
    have lA : (A.length : Int) = A1.length + A2.length := by rw [hA12]; simp
    have lB : (B.length : Int) = B1.length + B2.length := by rw [hB12]; simp
    have sA' := List.pairwise_append.1 (hA12 ▸ sA)
    have sB' := List.pairwise_append.1 (hB12 ▸ sB)
    -- each of A1 is at most each of B2
    have hAB : ∀ p ∈ A1, ∀ q ∈ B2, le p q = true := by
      intro p hp q hq
      obtain ⟨i, hi, rfl⟩ := List.getElem_of_mem hp
      obtain ⟨j, hj, rfl⟩ := List.getElem_of_mem hq
      have h1 := q5 (by omega) (by omega)
      have h2 := leA (a + i) (st - 1) (by omega) (by omega) (by omega)
      have h3 := leB en (en + j) (by omega) (by omega) (by omega)
      rw [getA (a + i) i (by omega) rfl] at h2
      rw [getB (en + j) (B1.length + j) (by omega) (by omega)] at h3
      have e1 : A[i]'(by omega) = A1[i] := by simp only [hA12]; exact List.getElem_append_left hi
      have e2 : B[B1.length + j]'(by omega) = B2[j] := by simp only [hB12]; rw [List.getElem_append_right (by omega)]; simp
      rw [e1] at h2; rw [e2] at h3
      exact ht.trans (ht.trans h2 h1) h3
    -- each of B1 is below each of A2
    have hBA : ∀ p ∈ A2, ∀ q ∈ B1, le p q = false := by
      intro p hp q hq
      obtain ⟨i, hi, rfl⟩ := List.getElem_of_mem hp
      obtain ⟨j, hj, rfl⟩ := List.getElem_of_mem hq
      have h1 := q6 (by omega) (by omega)
      have h2 := leA st (st + i) (by omega) (by omega) (by omega)
      have h3 := leB (m + j) (en - 1) (by omega) (by omega) (by omega)
      rw [getA (st + i) (A1.length + i) (by omega) (by omega)] at h2
      rw [getB (m + j) j (by omega) rfl] at h3
      have e1 : A[A1.length + i]'(by omega) = A2[i] := by simp only [hA12]; rw [List.getElem_append_right (by omega)]; simp
      have e2 : B[j]'(by omega) = B1[j] := by simp only [hB12]; exact List.getElem_append_left hj
      rw [e1] at h2; rw [e2] at h3
      cases h : le A2[i] B1[j]
      · rfl
      · rw [ht.trans (ht.trans h2 h) h3] at h1; cases h1
    -- the two halves, each put in order
    have hfin : isort le (A1 ++ B1) ++ isort le (A2 ++ B2) = isort le (A ++ B) := by
      refine isort_eq ht (List.pairwise_append.2 ⟨isort_srt ht _, isort_srt ht _, fun p hp q hq => ?_⟩) ?_
      · have hp := (isort_perm (le := le) _).mem_iff.1 hp
        have hq := (isort_perm (le := le) _).mem_iff.1 hq
        rcases List.mem_append.1 hp with hp | hp <;> rcases List.mem_append.1 hq with hq | hq
        · exact sA'.2.2 p hp q hq
        · exact hAB p hp q hq
        · exact ht.of_not (hBA q hq p hp)
        · exact sB'.2.2 p hp q hq
      · have h1 := SEq.append (isort_seq ht (A1 ++ B1)) (isort_seq ht (A2 ++ B2))
        have h2 := SEq.append (SEq.append (SEq.refl A1) (SEq.swap ht hBA).symm) (SEq.refl B2)
        refine h1.trans ?_
        rw [hA12, hB12]
        simpa using h2
    -- the last two calls
    have last : ∀ ys, ys = pre ++ A1 ++ B1 ++ A2 ++ B2 ++ post → Ev (fun k => j7 k ys a b mid st en) (pre ++ isort le (A ++ B) ++ post) := by
      intro ys hys
      have hyl : (ys.length : Int) = xs.length := by rw [hys, hxl]; simp; omega
      -- the second call
      have sec : ∀ zs, zs = pre ++ isort le (A1 ++ B1) ++ A2 ++ B2 ++ post → Ev (fun k => if mid < en then (if en < b then ((f k zs mid en b).bind fun u => some u) else some zs) else some zs) (pre ++ isort le (A ++ B) ++ post) := by
        intro zs hzs
        have hil : ((isort le (A1 ++ B1)).length : Int) = A1.length + B1.length := by rw [isort_len]; simp
        by_cases h1 : mid < en
        · by_cases h2 : en < b
          · simp only [if_pos h1, if_pos h2]
            have h3 := ih A2 B2 (pre ++ isort le (A1 ++ B1)) post mid en b (by omega) (by omega) (by omega) (by simp; omega) (by omega) (by omega) (by simp; omega) sA'.2.1 sB'.2.1
            have h4 : zs = (pre ++ isort le (A1 ++ B1)) ++ A2 ++ B2 ++ post := by rw [hzs]
            refine Ev.bind (a := pre ++ isort le (A ++ B) ++ post) ?_ (Ev.now _)
            rw [h4, ← hfin]
            simpa using h3
          · have hB2 : B2 = [] := eq_of_len0 (by omega)
            simp only [if_pos h1, if_neg h2]
            have h5 : zs = pre ++ isort le (A ++ B) ++ post := by
              rw [hzs, ← hfin, hB2, srt_isort ht (xs := A2 ++ []) (by simpa using sA'.2.1)]; simp
            rw [h5]; exact Ev.now _
        · have hA2 : A2 = [] := eq_of_len0 (by omega)
          simp only [if_neg h1]
          have h5 : zs = pre ++ isort le (A ++ B) ++ post := by
            rw [hzs, ← hfin, hA2, srt_isort ht (xs := [] ++ B2) (by simpa using sB'.2.1)]; simp
          rw [h5]; exact Ev.now _
      refine Ev.step (f := fun k => j8 k ys a b mid st en (decide (a < st ∧ st < mid))) (fun k => by
        rw [hF.ej7]
        by_cases h1 : a < st
        · rw [if_pos h1]; simp [h1]
        · rw [if_neg h1]; simp [h1]) ?_
      by_cases h1 : a < st ∧ st < mid
      · rw [decide_eq_true h1]
        refine Ev.step (fun k => by rw [hF.ej8, if_pos rfl]) ?_
        have h3 := ih A1 B1 pre (A2 ++ B2 ++ post) a st mid (by omega) (by omega) (by omega) ha (by omega) (by omega) (by simp; omega) sA'.1 sB'.1
        refine Ev.bind (a := pre ++ isort le (A1 ++ B1) ++ A2 ++ B2 ++ post) ?_ (sec _ rfl)
        rw [hys]
        simpa using h3
      · rw [decide_eq_false h1]
        refine Ev.step (fun k => by rw [hF.ej8, if_neg (by simp)]) (sec _ ?_)
        have : isort le (A1 ++ B1) = A1 ++ B1 := by
          refine srt_isort ht ?_
          by_cases h2 : a < st
          · have hB1 : B1 = [] := eq_of_len0 (by omega)
            rw [hB1]; simpa using sA'.1
          · have hA1 : A1 = [] := eq_of_len0 (by omega)
            rw [hA1]; simpa using sB'.1
        rw [hys, this]
        simp
    by_cases h1 : st < m ∧ m < en
    · have e1 : ∀ k, (if st < m then j6 k xs a m b mid st en (decide (m < en)) else j6 k xs a m b mid st en false) = j6 k xs a m b mid st en true := fun k => by rw [if_pos h1.1, decide_eq_true h1.2]
      refine Ev.congr e1 (Ev.step (fun k => by rw [hF.ej6, if_pos rfl, wr_ (m - st) (by omega) (by omega), wr_ (en - m) (by omega) (by omega)]) ?_)
      have h3 := ro_l0 hS hR (m := m) (A2.length + B1.length) A2 B1 (pre ++ A1) (B2 ++ post) (m - st) (en - m) (Nat.le_refl _) (by omega) (by omega) (by simp; omega) (by omega) (by omega) (by simp; omega)
      refine Ev.bind (a := pre ++ A1 ++ B1 ++ A2 ++ B2 ++ post) ?_ (last _ rfl)
      rw [hxs, hA12, hB12]
      simpa using h3
    · have e1 : ∀ k, (if st < m then j6 k xs a m b mid st en (decide (m < en)) else j6 k xs a m b mid st en false) = j6 k xs a m b mid st en false := fun k => by
        by_cases h2 : st < m
        · rw [if_pos h2, decide_eq_false (fun h3 => h1 ⟨h2, h3⟩)]
        · rw [if_neg h2]
      refine Ev.congr e1 (Ev.step (fun k => by rw [hF.ej6, if_neg (by simp)]) (last _ ?_))
      rw [hxs, hA12, hB12]
      by_cases h2 : st < m
      · have hB1 : B1 = [] := eq_of_len0 (by omega)
        rw [hB1]; simp
      · have hA2 : A2 = [] := eq_of_len0 (by omega)
        rw [hA2]; simp
  rw [← hxs]
  have hp : ∀ s1 s2 : Int, a ≤ s1 → s2 ≤ m → m ≤ mid + m - s2 → mid + m - s1 ≤ b → s1 ≤ s2 → (s1 = a ∨ mid + m - s1 = b) → (s2 = m ∨ mid + m - s2 = m) → Ev (fun k => l4 k xs a m b mid (mid + m) s1 s2 (mid + m - 1)) (pre ++ isort le (A ++ B) ++ post) := by
    intro s1 s2 q1 q2 q3 q4 q5 q6 q7
    refine sy_l4 hcmp hF (by omega) (by omega) (by omega) (fun c h1 h2 => by omega) (fun c e h1 h2 h3 h4 => ?_) (fun st h1 h2 h3 h4 => ?_) (s2 - s1).toNat s1 s2 (Int.le_refl _) q5 (Int.le_refl _) (Nat.le_refl _) (fun h => by omega) (fun h => by omega)
    · have g1 := leA c e (by omega) h2 (by omega)
      have g2 := leB (mid + m - 1 - e) (mid + m - 1 - c) (by omega) (by omega) (by omega)
      cases h : le (xs.getD e.toNat d) (xs.getD (mid + m - 1 - e).toNat d)
      · rfl
      · rw [ht.trans (ht.trans g1 h) g2] at h4; cases h4
    · refine follow st (by omega) (by omega) (by omega) (by omega) (fun h5 h6 => ?_) (fun h5 h6 => ?_)
      · have := h3 (by omega)
        rw [show mid + m - 1 - (st - 1) = mid + m - st by omega] at this
        exact this
      · exact h4 (by omega)
  by_cases hmm : m > mid
  · refine Ev.step (f := fun k => j4 k xs a m b mid (mid + m) (mid + m - b) mid) (fun k => by
      rw [hF.ef, wr_ (m - a) (by omega) (by omega), if_neg (by omega), wr_ (b - m) (by omega) (by omega), if_neg (by omega), hh, hmid, if_pos hmm, wr_ (mid + m) (by omega) (by omega), wr_ (mid + m - b) (by omega) (by omega)]) ?_
    refine Ev.step (f := fun k => l4 k xs a m b mid (mid + m) (mid + m - b) mid (mid + m - 1)) (fun k => by
      rw [hF.ej4, wr_ (mid + m - 1) (by omega) (by omega)]) ?_
    exact hp _ _ (by omega) (by omega) (by omega) (by omega) (by omega) (by omega) (by omega)
  · refine Ev.step (f := fun k => j4 k xs a m b mid (mid + m) a m) (fun k => by
      rw [hF.ef, wr_ (m - a) (by omega) (by omega), if_neg (by omega), wr_ (b - m) (by omega) (by omega), if_neg (by omega), hh, hmid, if_neg hmm, wr_ (mid + m) (by omega) (by omega)]) ?_
    refine Ev.step (f := fun k => l4 k xs a m b mid (mid + m) a m (mid + m - 1)) (fun k => by
      rw [hF.ej4, wr_ (mid + m - 1) (by omega) (by omega)]) ?_
    exact hp _ _ (by omega) (by omega) (by omega) (by omega) (by omega) (by omega) (by omega)
end SortD
section SortE
variable {α : Type} {d : α} {le : α → α → Bool} {cmp : α → α → Option Int}
variable {i0 : Nat → List α → Int → Int → Int → Option (List α)} {i1 : Nat → List α → Int → Int → Int → Int → Option (List α)} {s0 : Nat → List α → Int → Int → Int → Int → Option (List α)} {r0 : Nat → List α → Int → Int → Int → Option (List α)} {l0 : Nat → List α → Int → Int → Int → Option (List α)} {l1 : Nat → List α → Int → Int → Option (List α)} {l2 : Nat → List α → Int → Int → Int → Option (List α)} {l3 : Nat → List α → Int → Int → Option (List α)}
    {j4 : Nat → List α → Int → Int → Int → Int → Int → Int → Int → Option (List α)} {l4 : Nat → List α → Int → Int → Int → Int → Int → Int → Int → Int → Option (List α)} {j6 : Nat → List α → Int → Int → Int → Int → Int → Int → Bool → Option (List α)} {j7 : Nat → List α → Int → Int → Int → Int → Int → Option (List α)} {j8 : Nat → List α → Int → Int → Int → Int → Int → Bool → Option (List α)}
    {f : Nat → List α → Int → Int → Int → Option (List α)}
structure StF (i0 : Nat → List α → Int → Int → Int → Option (List α)) (f : Nat → List α → Int → Int → Int → Option (List α)) (t0 : Nat → List α → Int → Int → Int → Int → Option (List α)) (t1 : Nat → List α → Int → Int → Option (List α)) (t2 : Nat → List α → Int → Int → Int → Int → Option (List α)) : Prop where
  e0 : ∀ k xs n s a b, t0 (k + 1) xs n s a b = if b ≤ n then ((i0 k xs a b (wrap64 (a + 1))).bind fun t => t0 k t n s b (wrap64 (b + s))) else ((i0 k xs a n (wrap64 (a + 1))).bind fun t => t1 k t n s)
  e1 : ∀ k xs n s, t1 (k + 1) xs n s = if s < n then t2 k xs n s 0 (wrap64 (2 * s)) else some xs
  e2 : ∀ k xs n s a b, t2 (k + 1) xs n s a b = if b ≤ n then ((f k xs a (wrap64 (a + s)) b).bind fun t => t2 k t n s b (wrap64 (b + wrap64 (2 * s)))) else (if wrap64 (a + s) < n then ((f k xs a (wrap64 (a + s)) n).bind fun t => t1 k t n (wrap64 (s * 2))) else t1 k xs n (wrap64 (s * 2)))
variable {t0 : Nat → List α → Int → Int → Int → Int → Option (List α)} {t1 : Nat → List α → Int → Int → Option (List α)} {t2 : Nat → List α → Int → Int → Int → Int → Option (List α)}
/-- Blocks of s elements, the last one perhaps shorter, each in order. -/
inductive Blk (le : α → α → Bool) (s : Nat) : List α → Prop
  | last {xs : List α} : xs.length ≤ s → Srt le xs → Blk le s xs
  | more {B R : List α} : B.length = s → Srt le B → Blk le s R → Blk le s (B ++ R)
theorem Blk.srt {s : Nat} : ∀ {xs : List α}, Blk le s xs → xs.length ≤ s → Srt le xs
  | _, .last _ h, _ => h
  | _, .more (B := B) (R := R) hB h hR, hl => by
    have : R = [] := eq_of_len0 (by simp at hl; omega)
    rw [this]; simpa using h
theorem Blk.split {s : Nat} {xs : List α} (h : Blk le s xs) (hl : s < xs.length) : ∃ B R, xs = B ++ R ∧ B.length = s ∧ Srt le B ∧ Blk le s R := by
  cases h with
  | last h1 h2 => omega
  | more h1 h2 h3 => exact ⟨_, _, rfl, h1, h2, h3⟩
/-- The rounds of merges. -/
theorem stl_l2 (ht : TP le) (hcmp : Cmp le cmp) (hS : SwF d s0) (hR : RoF s0 r0) (hF : SyF d cmp r0 l0 l1 l2 l3 j4 l4 j6 j7 j8 f) (hT : StF i0 f t0 t1 t2) {n s : Nat} (hs : 0 < s) (hn : n < 1099511627776) (hs2 : s < 1099511627776) {r : List α} {zs : List α}
    (hk : ∀ ys : List α, ys.length = n → SEq le ys zs → Blk le (2 * s) ys → Ev (fun k => t1 k ys n ((s : Int) * 2)) r) : ∀ (c : Nat) (pre R : List α) (a b : Int), R.length ≤ c → a = pre.length → b = a + 2 * s → (pre ++ R).length = n → SEq le (pre ++ R) zs → Blk le s R →
      (∀ R', Blk le (2 * s) R' → Blk le (2 * s) (pre ++ R')) → Ev (fun k => t2 k (pre ++ R) n s a b) r := by
  intro c
  induction c with
  | zero =>
    intro pre R a b hc ha hb hl hz hB hP
    have hR0 : R = [] := eq_of_len0 (by omega)
    subst hR0
    simp at hl
    refine Ev.step (f := fun k => t1 k (pre ++ []) n ((s : Int) * 2)) (fun k => by
      rw [hT.e2, if_neg (by omega), wr_ (a + s) (by omega) (by omega), if_neg (by omega), wr_ ((s : Int) * 2) (by omega) (by omega)]) ?_
    exact hk _ (by simpa using hl) hz (hP [] (.last (by simp) .nil))
  | succ c ih =>
    intro pre R a b hc ha hb hl hz hB hP
    have hl2 : pre.length + R.length = n := by simpa using hl
    by_cases h1 : b ≤ n
    · obtain ⟨B1, R1, rfl, hB1, sB1, hR1⟩ := hB.split (by omega)
      obtain ⟨B2, R2, rfl, hB2, sB2, hR2⟩ : ∃ B R, R1 = B ++ R ∧ B.length = s ∧ Srt le B ∧ Blk le s R := by
        simp at hl2
        by_cases h2 : s < R1.length
        · exact hR1.split h2
        · exact ⟨R1, [], by simp, by omega, hR1.srt (by omega), .last (by simp) .nil⟩
      simp at hl2 hc
      refine Ev.step (f := fun k => (f k (pre ++ (B1 ++ (B2 ++ R2))) a (a + s) b).bind fun t => t2 k t n s b (b + 2 * s)) (fun k => by
        rw [hT.e2, if_pos h1, wr_ (a + s) (by omega) (by omega), wr_ (2 * (s : Int)) (by omega) (by omega), wr_ (b + 2 * s) (by omega) (by omega)]) ?_
      have h3 := sy_f ht hcmp hS hR hF (B1.length + B2.length) B1 B2 pre R2 a (a + s) b (Nat.le_refl _) (by omega) (by omega) ha (by omega) (by omega) (by simp; omega) sB1 sB2
      refine Ev.bind (a := pre ++ isort le (B1 ++ B2) ++ R2) (by simpa using h3) ?_
      have hil : (isort le (B1 ++ B2)).length = 2 * s := by rw [isort_len]; simp; omega
      refine ih (pre ++ isort le (B1 ++ B2)) R2 b (b + 2 * s) (by omega) (by simp; omega) rfl (by simp; omega) (SEq.trans ?_ hz) hR2 (fun R' h4 => ?_)
      · have := SEq.append (SEq.append (SEq.refl pre) (isort_seq ht (B1 ++ B2))) (SEq.refl R2)
        simpa using this
      · have := hP (isort le (B1 ++ B2) ++ R') (.more hil (isort_srt ht _) h4)
        simpa using this
    · by_cases h2 : a + s < n
      · obtain ⟨B1, R1, rfl, hB1, sB1, hR1⟩ := hB.split (by omega)
        simp at hl2
        have sR1 := hR1.srt (by omega)
        refine Ev.step (f := fun k => (f k (pre ++ (B1 ++ R1)) a (a + s) n).bind fun t => t1 k t n ((s : Int) * 2)) (fun k => by
          rw [hT.e2, if_neg h1, wr_ (a + s) (by omega) (by omega), if_pos h2, wr_ ((s : Int) * 2) (by omega) (by omega)]) ?_
        have h3 := sy_f ht hcmp hS hR hF (B1.length + R1.length) B1 R1 pre [] a (a + s) n (Nat.le_refl _) (by omega) (by omega) ha (by omega) (by omega) (by simp; omega) sB1 sR1
        refine Ev.bind (a := pre ++ isort le (B1 ++ R1)) (by simpa using h3) ?_
        refine hk _ (by simp [isort_len]; omega) (SEq.trans ?_ hz) (hP _ (.last (by rw [isort_len]; simp; omega) (isort_srt ht _)))
        exact SEq.append (SEq.refl pre) (isort_seq ht (B1 ++ R1))
      · refine Ev.step (f := fun k => t1 k (pre ++ R) n ((s : Int) * 2)) (fun k => by
          rw [hT.e2, if_neg h1, wr_ (a + s) (by omega) (by omega), if_neg h2, wr_ ((s : Int) * 2) (by omega) (by omega)]) ?_
        exact hk _ hl hz (hP R (.last (by omega) (hB.srt (by omega))))
theorem stl_l1 (ht : TP le) (hcmp : Cmp le cmp) (hS : SwF d s0) (hR : RoF s0 r0) (hF : SyF d cmp r0 l0 l1 l2 l3 j4 l4 j6 j7 j8 f) (hT : StF i0 f t0 t1 t2) {n : Nat} (hn : n < 1099511627776) {zs : List α} : ∀ (c s : Nat) (ys : List α), 0 < s → s < 1099511627776 * 2 → n - s ≤ c → ys.length = n → SEq le ys zs → Blk le s ys →
    Ev (fun k => t1 k ys n (s : Int)) (isort le zs) := by
  intro c
  induction c with
  | zero =>
    intro s ys h0 h1 h2 h3 h4 h5
    refine Ev.step (f := fun _ => some (isort le zs)) (fun k => ?_) (Ev.now _)
    rw [hT.e1, if_neg (by omega), isort_eq ht (h5.srt (by omega)) h4]
  | succ c ih =>
    intro s ys h0 h1 h2 h3 h4 h5
    by_cases h6 : s < n
    · refine Ev.step (f := fun k => t2 k ys n s 0 (2 * s)) (fun k => by rw [hT.e1, if_pos (by omega), wr_ (2 * (s : Int)) (by omega) (by omega)]) ?_
      have := stl_l2 ht hcmp hS hR hF hT (n := n) (s := s) h0 hn (by omega) (r := isort le zs) (zs := zs) (fun ys' g1 g2 g3 => ?_) ys.length [] ys 0 (2 * s) (Nat.le_refl _) (by simp) (by omega) (by simpa using h3) (by simpa using h4) h5 (fun R' h => by simpa using h)
      · simpa using this
      · have := ih (2 * s) ys' (by omega) (by omega) (by omega) g1 g2 g3
        rw [show ((s : Int) * 2) = ((2 * s : Nat) : Int) by omega]
        exact this
    · refine Ev.step (f := fun _ => some (isort le zs)) (fun k => ?_) (Ev.now _)
      rw [hT.e1, if_neg (by omega), isort_eq ht (h5.srt (by omega)) h4]
theorem stl_l0 (ht : TP le) (hcmp : Cmp le cmp) (hI : InsF d cmp i0 i1) (hT : StF i0 f t0 t1 t2) {n s : Nat} (hs : 0 < s) (hn : n < 1099511627776) (hs2 : s < 1099511627776) {r : List α} {zs : List α}
    (hk : ∀ ys : List α, ys.length = n → SEq le ys zs → Blk le s ys → Ev (fun k => t1 k ys n s) r) : ∀ (c : Nat) (pre R : List α) (a b : Int), R.length ≤ c → a = pre.length → b = a + s → (pre ++ R).length = n → SEq le (pre ++ R) zs →
      (∀ R', Blk le s R' → Blk le s (pre ++ R')) → Ev (fun k => t0 k (pre ++ R) n s a b) r := by
  intro c
  induction c with
  | zero =>
    intro pre R a b hc ha hb hl hz hP
    have hR0 : R = [] := eq_of_len0 (by omega)
    subst hR0
    simp at hl
    refine Ev.step (f := fun k => (i0 k (pre ++ []) a n (wrap64 (a + 1))).bind fun t => t1 k t n s) (fun k => by rw [hT.e0, if_neg (by omega)]) ?_
    have h3 := ins_f ht hcmp hI (pre := pre) (S := []) (post := []) (a := a) (b := n) ha (by simp; omega) (by simp; omega)
    refine Ev.bind (a := pre ++ []) (by simpa [isort] using h3) (hk _ (by simpa using hl) hz (hP [] (.last (by simp) .nil)))
  | succ c ih =>
    intro pre R a b hc ha hb hl hz hP
    have hl2 : pre.length + R.length = n := by simpa using hl
    by_cases h1 : b ≤ n
    · obtain ⟨B, R2, rfl, hB⟩ : ∃ B R2, R = B ++ R2 ∧ B.length = s := ⟨R.take s, R.drop s, (List.take_append_drop _ _).symm, by rw [List.length_take]; omega⟩
      simp at hl2 hc
      refine Ev.step (f := fun k => (i0 k (pre ++ (B ++ R2)) a b (wrap64 (a + 1))).bind fun t => t0 k t n s b (b + s)) (fun k => by rw [hT.e0, if_pos h1, wr_ (b + s) (by omega) (by omega)]) ?_
      have h3 := ins_f ht hcmp hI (pre := pre) (S := B) (post := R2) (a := a) (b := b) ha (by omega) (by simp; omega)
      refine Ev.bind (a := pre ++ isort le B ++ R2) (by simpa using h3) ?_
      have hil : (isort le B).length = s := by rw [isort_len]; omega
      refine ih (pre ++ isort le B) R2 b (b + s) (by omega) (by simp; omega) rfl (by simp; omega) (SEq.trans ?_ hz) (fun R' h4 => ?_)
      · have := SEq.append (SEq.append (SEq.refl pre) (isort_seq ht B)) (SEq.refl R2)
        simpa using this
      · have := hP (isort le B ++ R') (.more hil (isort_srt ht _) h4)
        simpa using this
    · refine Ev.step (f := fun k => (i0 k (pre ++ R) a n (wrap64 (a + 1))).bind fun t => t1 k t n s) (fun k => by rw [hT.e0, if_neg h1]) ?_
      have h3 := ins_f ht hcmp hI (pre := pre) (S := R) (post := []) (a := a) (b := n) ha (by omega) (by simp; omega)
      refine Ev.bind (a := pre ++ isort le R) (by simpa using h3) ?_
      refine hk _ (by simp [isort_len]; omega) (SEq.trans ?_ hz) (hP _ (.last (by rw [isort_len]; omega) (isort_srt ht _)))
      exact SEq.append (SEq.refl pre) (isort_seq ht R)
/-- The stable sort. -/
theorem stl_f (ht : TP le) (hcmp : Cmp le cmp) (hI : InsF d cmp i0 i1) (hS : SwF d s0) (hR : RoF s0 r0) (hF : SyF d cmp r0 l0 l1 l2 l3 j4 l4 j6 j7 j8 f) (hT : StF i0 f t0 t1 t2) (xs : List α) (hl : xs.length < 1099511627776) : Ev (fun k => t0 k xs (xs.length : Int) 20 0 20) (isort le xs) := by
  have := stl_l0 ht hcmp hI hT (n := xs.length) (s := 20) (by omega) hl (by omega) (r := isort le xs) (zs := xs) (fun ys g1 g2 g3 => stl_l1 ht hcmp hS hR hF hT hl xs.length 20 ys (by omega) (by omega) (by omega) g1 g2 g3) xs.length [] xs 0 20 (Nat.le_refl _) (by simp) (by omega) (by simp) (SEq.refl _) (fun R' h => by simpa using h)
  simpa using this
end SortE

theorem sortI_Step__profile_tidy_1 : InsF z40 (fun x y => profile_tidy_1.f x.f0 x.f1 y.f0 y.f1) slices_insertionSortCmpFunc_Step__profile_tidy_1.l0 slices_insertionSortCmpFunc_Step__profile_tidy_1.l1 := ⟨by intros; simp only [slices_insertionSortCmpFunc_Step__profile_tidy_1.l0], by intros; simp only [slices_insertionSortCmpFunc_Step__profile_tidy_1.l1]; rfl⟩
theorem sortW_Step__profile_tidy_1 : SwF z40 slices_swapRangeCmpFunc_Step__profile_tidy_1.l0 := ⟨by intros; simp only [slices_swapRangeCmpFunc_Step__profile_tidy_1.l0]; rfl⟩
theorem sortR_Step__profile_tidy_1 : RoF slices_swapRangeCmpFunc_Step__profile_tidy_1.l0 slices_rotateCmpFunc_Step__profile_tidy_1.l0 := ⟨by intros; simp only [slices_rotateCmpFunc_Step__profile_tidy_1.l0, slices_swapRangeCmpFunc_Step__profile_tidy_1.f]⟩
theorem sortY_Step__profile_tidy_1 : SyF z40 (fun x y => profile_tidy_1.f x.f0 x.f1 y.f0 y.f1) slices_rotateCmpFunc_Step__profile_tidy_1.l0 slices_symMergeCmpFunc_Step__profile_tidy_1.l0 slices_symMergeCmpFunc_Step__profile_tidy_1.l1 slices_symMergeCmpFunc_Step__profile_tidy_1.l2 slices_symMergeCmpFunc_Step__profile_tidy_1.l3 slices_symMergeCmpFunc_Step__profile_tidy_1.j4 slices_symMergeCmpFunc_Step__profile_tidy_1.l4 slices_symMergeCmpFunc_Step__profile_tidy_1.j6 slices_symMergeCmpFunc_Step__profile_tidy_1.j7 slices_symMergeCmpFunc_Step__profile_tidy_1.j8 slices_symMergeCmpFunc_Step__profile_tidy_1.f where
  ef := by intros; simp only [slices_symMergeCmpFunc_Step__profile_tidy_1.f]
  e0 := by intros; simp only [slices_symMergeCmpFunc_Step__profile_tidy_1.l0]; rfl
  e1 := by intros; simp only [slices_symMergeCmpFunc_Step__profile_tidy_1.l1]; rfl
  e2 := by intros; simp only [slices_symMergeCmpFunc_Step__profile_tidy_1.l2]; rfl
  e3 := by intros; simp only [slices_symMergeCmpFunc_Step__profile_tidy_1.l3]; rfl
  ej4 := by intros; simp only [slices_symMergeCmpFunc_Step__profile_tidy_1.j4]
  e4 := by intros; simp only [slices_symMergeCmpFunc_Step__profile_tidy_1.l4]; rfl
  ej6 := by intros; simp only [slices_symMergeCmpFunc_Step__profile_tidy_1.j6, slices_rotateCmpFunc_Step__profile_tidy_1.f]
  ej7 := by intros; simp only [slices_symMergeCmpFunc_Step__profile_tidy_1.j7]
  ej8 := by intros; simp only [slices_symMergeCmpFunc_Step__profile_tidy_1.j8]
theorem sortB_Step__profile_tidy_1 : StF slices_insertionSortCmpFunc_Step__profile_tidy_1.l0 slices_symMergeCmpFunc_Step__profile_tidy_1.f slices_stableCmpFunc_Step__profile_tidy_1.l0 slices_stableCmpFunc_Step__profile_tidy_1.l1 slices_stableCmpFunc_Step__profile_tidy_1.l2 := ⟨by intros; simp only [slices_stableCmpFunc_Step__profile_tidy_1.l0, slices_insertionSortCmpFunc_Step__profile_tidy_1.f], by intros; simp only [slices_stableCmpFunc_Step__profile_tidy_1.l1], by intros; simp only [slices_stableCmpFunc_Step__profile_tidy_1.l2]⟩
theorem SORT_Step__profile_tidy_1 {le : S40 → S40 → Bool} (ht : TP le) (hc : Cmp le (fun x y => profile_tidy_1.f x.f0 x.f1 y.f0 y.f1)) (xs : List S40) (hl : xs.length < 1099511627776) : Ev (fun k => slices_SortStableFunc_Step__profile_tidy_1.f k xs) (isort le xs) := by
  have h := stl_f ht hc sortI_Step__profile_tidy_1 sortW_Step__profile_tidy_1 sortR_Step__profile_tidy_1 sortY_Step__profile_tidy_1 sortB_Step__profile_tidy_1 xs hl
  have e : ∀ k, slices_SortStableFunc_Step__profile_tidy_1.f k xs = (slices_stableCmpFunc_Step__profile_tidy_1.l0 k xs (xs.length : Int) 20 0 20) := fun k => by
    unfold slices_SortStableFunc_Step__profile_tidy_1.f slices_stableCmpFunc_Step__profile_tidy_1.f
    cases slices_stableCmpFunc_Step__profile_tidy_1.l0 k xs (xs.length : Int) 20 0 20 <;> rfl
  exact Ev.congr e h

theorem sortI_Busy__profile_New_1 : InsF z38 (fun x y => profile_New_1.f x.f0 x.f1 y.f0 y.f1) slices_insertionSortCmpFunc_Busy__profile_New_1.l0 slices_insertionSortCmpFunc_Busy__profile_New_1.l1 := ⟨by intros; simp only [slices_insertionSortCmpFunc_Busy__profile_New_1.l0], by intros; simp only [slices_insertionSortCmpFunc_Busy__profile_New_1.l1]; rfl⟩
theorem sortW_Busy__profile_New_1 : SwF z38 slices_swapRangeCmpFunc_Busy__profile_New_1.l0 := ⟨by intros; simp only [slices_swapRangeCmpFunc_Busy__profile_New_1.l0]; rfl⟩
theorem sortR_Busy__profile_New_1 : RoF slices_swapRangeCmpFunc_Busy__profile_New_1.l0 slices_rotateCmpFunc_Busy__profile_New_1.l0 := ⟨by intros; simp only [slices_rotateCmpFunc_Busy__profile_New_1.l0, slices_swapRangeCmpFunc_Busy__profile_New_1.f]⟩
theorem sortY_Busy__profile_New_1 : SyF z38 (fun x y => profile_New_1.f x.f0 x.f1 y.f0 y.f1) slices_rotateCmpFunc_Busy__profile_New_1.l0 slices_symMergeCmpFunc_Busy__profile_New_1.l0 slices_symMergeCmpFunc_Busy__profile_New_1.l1 slices_symMergeCmpFunc_Busy__profile_New_1.l2 slices_symMergeCmpFunc_Busy__profile_New_1.l3 slices_symMergeCmpFunc_Busy__profile_New_1.j4 slices_symMergeCmpFunc_Busy__profile_New_1.l4 slices_symMergeCmpFunc_Busy__profile_New_1.j6 slices_symMergeCmpFunc_Busy__profile_New_1.j7 slices_symMergeCmpFunc_Busy__profile_New_1.j8 slices_symMergeCmpFunc_Busy__profile_New_1.f where
  ef := by intros; simp only [slices_symMergeCmpFunc_Busy__profile_New_1.f]
  e0 := by intros; simp only [slices_symMergeCmpFunc_Busy__profile_New_1.l0]; rfl
  e1 := by intros; simp only [slices_symMergeCmpFunc_Busy__profile_New_1.l1]; rfl
  e2 := by intros; simp only [slices_symMergeCmpFunc_Busy__profile_New_1.l2]; rfl
  e3 := by intros; simp only [slices_symMergeCmpFunc_Busy__profile_New_1.l3]; rfl
  ej4 := by intros; simp only [slices_symMergeCmpFunc_Busy__profile_New_1.j4]
  e4 := by intros; simp only [slices_symMergeCmpFunc_Busy__profile_New_1.l4]; rfl
  ej6 := by intros; simp only [slices_symMergeCmpFunc_Busy__profile_New_1.j6, slices_rotateCmpFunc_Busy__profile_New_1.f]
  ej7 := by intros; simp only [slices_symMergeCmpFunc_Busy__profile_New_1.j7]
  ej8 := by intros; simp only [slices_symMergeCmpFunc_Busy__profile_New_1.j8]
theorem sortB_Busy__profile_New_1 : StF slices_insertionSortCmpFunc_Busy__profile_New_1.l0 slices_symMergeCmpFunc_Busy__profile_New_1.f slices_stableCmpFunc_Busy__profile_New_1.l0 slices_stableCmpFunc_Busy__profile_New_1.l1 slices_stableCmpFunc_Busy__profile_New_1.l2 := ⟨by intros; simp only [slices_stableCmpFunc_Busy__profile_New_1.l0, slices_insertionSortCmpFunc_Busy__profile_New_1.f], by intros; simp only [slices_stableCmpFunc_Busy__profile_New_1.l1], by intros; simp only [slices_stableCmpFunc_Busy__profile_New_1.l2]⟩
theorem SORT_Busy__profile_New_1 {le : S38 → S38 → Bool} (ht : TP le) (hc : Cmp le (fun x y => profile_New_1.f x.f0 x.f1 y.f0 y.f1)) (xs : List S38) (hl : xs.length < 1099511627776) : Ev (fun k => slices_SortStableFunc_Busy__profile_New_1.f k xs) (isort le xs) := by
  have h := stl_f ht hc sortI_Busy__profile_New_1 sortW_Busy__profile_New_1 sortR_Busy__profile_New_1 sortY_Busy__profile_New_1 sortB_Busy__profile_New_1 xs hl
  have e : ∀ k, slices_SortStableFunc_Busy__profile_New_1.f k xs = (slices_stableCmpFunc_Busy__profile_New_1.l0 k xs (xs.length : Int) 20 0 20) := fun k => by
    unfold slices_SortStableFunc_Busy__profile_New_1.f slices_stableCmpFunc_Busy__profile_New_1.f
    cases slices_stableCmpFunc_Busy__profile_New_1.l0 k xs (xs.length : Int) 20 0 20 <;> rfl
  exact Ev.congr e h

/-! ### profiles: what they say at a tick, and when two are one -/
theorem wrp (n : Int) (h : -9223372036854775808 ≤ n) (h2 : n < 9223372036854775808) : wrap64 n = n := by unfold wrap64; omega
/-- What stands last, of those that have begun; d: none has. -/
def evD (d : Int) (l : List S40) (t : Int) : Int := l.foldl (fun acc s => if s.f0 ≤ t then s.f1 else acc) d
theorem evD_nil (d t : Int) : evD d [] t = d := rfl
theorem evD_cons (d t : Int) (s : S40) (l : List S40) : evD d (s :: l) t = evD (if s.f0 ≤ t then s.f1 else d) l t := rfl
theorem evD_append (d t : Int) (l l' : List S40) : evD d (l ++ l') t = evD (evD d l t) l' t := by unfold evD; rw [List.foldl_append]
theorem evD_far (d t : Int) : ∀ (l : List S40), (∀ s ∈ l, t < s.f0) → evD d l t = d
  | [], _ => rfl
  | s :: l, h => by
    rw [evD_cons, if_neg (by have := h s (by simp); omega)]
    exact evD_far d t l (fun u hu => h u (by simp [hu]))
/-- A list that follows a step at a of height x: rising ticks, no two neighbours of one height. -/
def Can (a x : Int) : List S40 → Prop
  | [] => True
  | s :: r => a < s.f0 ∧ s.f1 ≠ x ∧ Can s.f0 s.f1 r
theorem Can.gt {a x : Int} : ∀ {l : List S40}, Can a x l → ∀ s ∈ l, a < s.f0
  | [], _, s, h => by simp at h
  | u :: l, h, s, hs => by
    rcases List.mem_cons.1 hs with rfl | hs
    · exact h.1
    · have := Can.gt h.2.2 s hs; have := h.1; omega
theorem Can.uniq : ∀ {l l' : List S40} {a x : Int}, Can a x l → Can a x l' → (∀ t, a < t → evD x l t = evD x l' t) → l = l'
  | [], [], _, _, _, _, _ => rfl
  | [], s :: l', a, x, _, h, he => by
    have := he s.f0 h.1
    rw [evD_nil, evD_cons, if_pos (Int.le_refl _), evD_far _ _ l' (fun u hu => Can.gt h.2.2 u hu)] at this
    exact absurd this.symm h.2.1
  | s :: l, [], a, x, h, _, he => by
    have := he s.f0 h.1
    rw [evD_nil, evD_cons, if_pos (Int.le_refl _), evD_far _ _ l (fun u hu => Can.gt h.2.2 u hu)] at this
    exact absurd this h.2.1
  | s :: l, s' :: l', a, x, h, h', he => by
    have e0 : s.f0 = s'.f0 := by
      rcases Int.lt_trichotomy s.f0 s'.f0 with g | g | g
      · have := he s.f0 h.1
        rw [evD_cons, evD_cons, if_pos (Int.le_refl _), if_neg (by omega), evD_far _ _ l (fun u hu => Can.gt h.2.2 u hu), evD_far _ _ l' (fun u hu => by have := Can.gt h'.2.2 u hu; omega)] at this
        exact absurd this h.2.1
      · exact g
      · have := he s'.f0 h'.1
        rw [evD_cons, evD_cons, if_pos (Int.le_refl s'.f0), if_neg (by omega), evD_far _ _ l' (fun u hu => Can.gt h'.2.2 u hu), evD_far _ _ l (fun u hu => by have := Can.gt h.2.2 u hu; omega)] at this
        exact absurd this.symm h'.2.1
    have e1 : s.f1 = s'.f1 := by
      have := he s.f0 h.1
      rw [evD_cons, evD_cons, if_pos (Int.le_refl _), if_pos (by omega), evD_far _ _ l (fun u hu => Can.gt h.2.2 u hu), evD_far _ _ l' (fun u hu => by have := Can.gt h'.2.2 u hu; omega)] at this
      exact this
    have e : s = s' := by cases s; cases s'; simp_all
    subst e
    rw [Can.uniq h.2.2 h'.2.2 (fun t ht => by
      have := he t (by have := h.1; omega)
      rw [evD_cons, evD_cons, if_pos (by omega)] at this
      exact this)]
/-- A profile in its one form, from a tick on. -/
def Cn (a : Int) (p : List S40) : Prop := ∃ x r, p = ⟨a, x⟩ :: r ∧ Can a x r
theorem Cn.uniq {a : Int} {p q : List S40} (h : Cn a p) (h' : Cn a q) (he : ∀ t, a ≤ t → evD 0 p t = evD 0 q t) : p = q := by
  obtain ⟨x, r, rfl, hr⟩ := h
  obtain ⟨y, r', rfl, hr'⟩ := h'
  have exy : x = y := by
    have := he a (Int.le_refl _)
    rw [evD_cons, evD_cons, if_pos (Int.le_refl _), evD_far _ _ r (fun u hu => Can.gt hr u hu), evD_far _ _ r' (fun u hu => Can.gt hr' u hu)] at this
    simpa using this
  subst exy
  rw [Can.uniq hr hr' (fun t ht => by
    have := he t (by omega)
    rw [evD_cons, evD_cons, if_pos (by show a ≤ t; omega)] at this
    exact this)]
/-! tidy, told by a recursion -/
def td (last : Option Int) : List S40 → List S40
  | [] => []
  | [s] => if last = some s.f1 then [] else [s]
  | s :: s' :: r => if s'.f0 = s.f0 ∨ last = some s.f1 then td last (s' :: r) else s :: td (some s.f1) (s' :: r)
theorem td_cc (last : Option Int) (s s' : S40) (r : List S40) : td last (s :: s' :: r) = if s'.f0 = s.f0 ∨ last = some s.f1 then td last (s' :: r) else s :: td (some s.f1) (s' :: r) := by rw [td]
abbrev Asc (l : List S40) : Prop := l.Pairwise (fun a b => a.f0 ≤ b.f0)
theorem td_mem : ∀ (l : List S40) (last : Option Int), ∀ s ∈ td last l, s ∈ l
  | [], _, s, h => by simp [td] at h
  | [u], last, s, h => by
    unfold td at h
    split at h
    · simp at h
    · exact h
  | u :: u' :: r, last, s, h => by
    unfold td at h
    split at h
    · exact List.mem_cons_of_mem _ (td_mem (u' :: r) last s h)
    · rcases List.mem_cons.1 h with rfl | h
      · simp
      · exact List.mem_cons_of_mem _ (td_mem (u' :: r) _ s h)
theorem td_ev : ∀ (l : List S40) (last : Option Int) (d t : Int), Asc l → (∀ x, last = some x → x = d) → evD d (td last l) t = evD d l t
  | [], _, _, _, _, _ => rfl
  | [s], last, d, t, _, hd => by
    unfold td
    split
    · next h => rw [evD_nil, evD_cons, evD_nil, hd _ h]; split <;> rfl
    · rfl
  | s :: s' :: r, last, d, t, hs, hd => by
    have hs' := List.pairwise_cons.1 hs
    have hss := hs'.1 s' (by simp)
    have far : t < s.f0 → ∀ u ∈ s' :: r, t < u.f0 := fun h u hu => by have := hs'.1 u hu; omega
    unfold td
    split
    · next h =>
      rw [td_ev (s' :: r) last d t hs'.2 hd]
      rcases h with h | h
      · rw [evD_cons d t s (s' :: r), evD_cons, evD_cons]
        by_cases ht : s'.f0 ≤ t
        · rw [if_pos ht, if_pos ht]
        · rw [if_neg ht, if_neg ht, if_neg (by omega)]
      · rw [evD_cons d t s (s' :: r), hd _ h]; split <;> rfl
    · next h =>
      rw [evD_cons, evD_cons d t s (s' :: r)]
      by_cases ht : s.f0 ≤ t
      · rw [if_pos ht, td_ev (s' :: r) (some s.f1) s.f1 t hs'.2 (fun x hx => by injection hx with hx; exact hx.symm)]
      · rw [if_neg ht, evD_far _ _ _ (far (by omega)), evD_far _ _ _ (fun u hu => far (by omega) u (td_mem _ _ u hu))]
theorem td_can : ∀ (l : List S40) (a x : Int), Asc l → (∀ s ∈ l, a < s.f0) → Can a x (td (some x) l)
  | [], _, _, _, _ => trivial
  | [s], a, x, _, h => by
    unfold td
    split
    · trivial
    · next hn => exact ⟨h s (by simp), fun e => hn (by rw [e]), trivial⟩
  | s :: s' :: r, a, x, hs, h => by
    have hs' := List.pairwise_cons.1 hs
    unfold td
    split
    · exact td_can (s' :: r) a x hs'.2 (fun u hu => h u (by simp [hu]))
    · next hn =>
      have hlt : s.f0 < s'.f0 := by have := hs'.1 s' (by simp); have : s'.f0 ≠ s.f0 := fun e => hn (.inl e); omega
      refine ⟨h s (by simp), fun e => hn (.inr (by rw [e])), td_can (s' :: r) s.f0 s.f1 hs'.2 (fun u hu => ?_)⟩
      rcases List.mem_cons.1 hu with rfl | hu
      · exact hlt
      · have := (List.pairwise_cons.1 hs'.2).1 u hu; omega
theorem td_cn : ∀ (l : List S40) (a : Int), Asc l → l ≠ [] → (∀ s r, l = s :: r → s.f0 = a) → Cn a (td none l)
  | [], _, _, h, _ => absurd rfl h
  | [s], a, _, _, h => ⟨s.f1, [], by unfold td; rw [if_neg (by simp), ← h s [] rfl], trivial⟩
  | s :: s' :: r, a, hs, _, h => by
    have hs' := List.pairwise_cons.1 hs
    have ha := h s _ rfl
    unfold td
    split
    · next hn =>
      have e : s'.f0 = s.f0 := by rcases hn with hn | hn
                                  · exact hn
                                  · cases hn
      exact td_cn (s' :: r) a hs'.2 (by simp) (fun u q e2 => by injection e2 with e2 _; rw [← e2, e, ha])
    · next hn =>
      have hlt : s.f0 < s'.f0 := by have := hs'.1 s' (by simp); have : s'.f0 ≠ s.f0 := fun e => hn (.inl e); omega
      refine ⟨s.f1, td (some s.f1) (s' :: r), by rw [← ha], ?_⟩
      rw [← ha]
      refine td_can (s' :: r) s.f0 s.f1 hs'.2 (fun u hu => ?_)
      rcases List.mem_cons.1 hu with rfl | hu
      · exact hlt
      · have := (List.pairwise_cons.1 hs'.2).1 u hu; omega
/-! the orders by which is sorted -/
def le40 (a b : S40) : Bool := decide (a.f0 ≤ b.f0)
def le38 (a b : S38) : Bool := decide (a.f0 ≤ b.f0)
theorem tp40 : TP le40 := ⟨fun a b => by simp only [le40, decide_eq_true_eq]; omega, fun {a b c} h h2 => by simp only [le40, decide_eq_true_eq] at *; omega⟩
theorem tp38 : TP le38 := ⟨fun a b => by simp only [le38, decide_eq_true_eq]; omega, fun {a b c} h h2 => by simp only [le38, decide_eq_true_eq] at *; omega⟩
theorem cmp_int (a b : Int) : cmp_Compare_int.f a b = some (if a < b then -1 else if a > b then 1 else 0) := by
  unfold cmp_Compare_int.f cmp_isNaN_int.f
  simp
  split
  · rfl
  · split <;> rfl
theorem cmp_lt (a b : Int) : ∃ t, cmp_Compare_int.f a b = some t ∧ (t < 0 ↔ a < b) := by
  refine ⟨_, cmp_int a b, ?_⟩
  split
  · simp; omega
  · split <;> simp <;> omega
theorem cmp_tidy : Cmp le40 (fun x y => profile_tidy_1.f x.f0 x.f1 y.f0 y.f1) := fun x y => by
  obtain ⟨t, h1, h2⟩ := cmp_lt x.f0 y.f0
  exact ⟨t, by show (cmp_Compare_int.f x.f0 y.f0).bind _ = _; rw [h1]; rfl, by rw [h2]; simp [le40]⟩
theorem cmp_New : Cmp le38 (fun x y => profile_New_1.f x.f0 x.f1 y.f0 y.f1) := fun x y => by
  obtain ⟨t, h1, h2⟩ := cmp_lt x.f0 y.f0
  exact ⟨t, by show (cmp_Compare_int.f x.f0 y.f0).bind _ = _; rw [h1]; rfl, by rw [h2]; simp [le38]⟩
theorem srt40 {l : List S40} : Srt le40 l ↔ Asc l := by
  constructor <;> intro h <;> refine h.imp (fun {a b} hab => ?_) <;> simpa [le40] using hab
/-! readings at a place -/
theorem rd40_mid (p q : List S40) (x : S40) (i : Int) (hi : i = p.length) : rd_T40 (p ++ x :: q) i = x := gt_ p q x i hi
theorem rd38_mid (p q : List S38) (x : S38) (i : Int) (hi : i = p.length) : rd_T38 (p ++ x :: q) i = x := gt_ p q x i hi
theorem rdI_mid (p q : List Int) (x : Int) (i : Int) (hi : i = p.length) : rd (p ++ x :: q) i = x := gt_ p q x i hi
/-! At -/
theorem at_l0 (t : Int) : ∀ (rest pre : List S40) (acc i n : Int), i = pre.length → n = (pre ++ rest).length → (pre ++ rest).length < 1099511627776 → Ev (fun k => profile_At.l0 k t acc (pre ++ rest) n i) (evD acc rest t)
  | [], pre, acc, i, n, hi, hn, hl => by
    simp at hn hl
    exact Ev.step (f := fun _ => some acc) (fun k => by rw [profile_At.l0, if_neg (by omega)]) (Ev.now _)
  | s :: rest, pre, acc, i, n, hi, hn, hl => by
    have hlen : ((pre ++ s :: rest).length : Int) = pre.length + rest.length + 1 := by simp; omega
    refine Ev.step (f := fun k => profile_At.l0 k t (if s.f0 ≤ t then s.f1 else acc) (pre ++ s :: rest) n (i + 1)) (fun k => by
      rw [profile_At.l0, if_pos (by omega), if_pos (by omega), if_pos (by omega), rd40_mid pre rest s i hi, wrp (i + 1) (by omega) (by omega)]
      split <;> rfl) ?_
    have := at_l0 t rest (pre ++ [s]) (if s.f0 ≤ t then s.f1 else acc) (i + 1) n (by simp; omega) (by simpa using hn) (by simpa using hl)
    rw [evD_cons]
    simpa using this
theorem at_f (l : List S40) (t : Int) (hl : l.length < 1099511627776) : Ev (fun k => profile_At.f k l t) (evD 0 l t) := at_l0 t l [] 0 0 l.length rfl rfl hl
/-! tidy -/
def lastF (out : List S40) : Option Int := out.getLast?.map (·.f1)
theorem lastF_snoc (o : List S40) (s : S40) : lastF (o ++ [s]) = some s.f1 := by simp [lastF]
theorem tidy_l0 : ∀ (rest pre out : List S40) (i n : Int), i = pre.length → n = (pre ++ rest).length → (pre ++ rest).length < 4398046511104 → out.length ≤ pre.length →
    Ev (fun k => profile_tidy.l0 k (pre ++ rest) out (pre ++ rest) n i) (out ++ td (lastF out) rest, pre ++ rest)
  | [], pre, out, i, n, hi, hn, hl, ho => by
    simp at hn
    refine Ev.step (f := fun _ => some (out ++ td (lastF out) [], pre ++ [])) (fun k => ?_) (Ev.now _)
    rw [profile_tidy.l0, if_neg (by omega), slices_Clip_Step.f, Option.bind_some]
    simp [td]
  | s :: rest, pre, out, i, n, hi, hn, hl, ho => by
    have hlen : ((pre ++ s :: rest).length : Int) = pre.length + rest.length + 1 := by simp; omega
    simp only [List.length_append, List.length_cons] at hl
    -- what is known of the last one
    have key : ∀ (g : Nat → Option (List S40 × List S40)) (k : Nat), (if (out.length : Int) > 0 then (if 0 ≤ (wrap64 ((out.length : Int) - 1)) then (if (wrap64 ((out.length : Int) - 1)) < (out.length : Int) then (if ((rd_T40 out (wrap64 ((out.length : Int) - 1))).f1) = s.f1 then g k else (if out.length < 8796093022208 then profile_tidy.l0 k (pre ++ s :: rest) (out ++ [(⟨s.f0, s.f1⟩ : S40)]) (pre ++ s :: rest) n (i + 1) else none)) else none) else none) else (if out.length < 8796093022208 then profile_tidy.l0 k (pre ++ s :: rest) (out ++ [(⟨s.f0, s.f1⟩ : S40)]) (pre ++ s :: rest) n (i + 1) else none)) =
        if lastF out = some s.f1 then g k else profile_tidy.l0 k (pre ++ s :: rest) (out ++ [s]) (pre ++ s :: rest) n (i + 1) := by
      intro g k
      by_cases h0 : out.length = 0
      · have := eq_of_len0 h0
        subst this
        rw [if_neg (by simp), if_pos (by simp), if_neg (by simp [lastF])]
      · obtain ⟨o, u, rfl⟩ : ∃ o u, out = o ++ [u] := ⟨out.dropLast, out.getLast (by intro e; simp [e] at h0), (List.dropLast_concat_getLast _).symm⟩
        have e1 : (((o ++ [u]).length : Nat) : Int) = o.length + 1 := by simp
        simp only [List.length_append, List.length_cons, List.length_nil] at ho
        rw [if_pos (by omega), wrp _ (by omega) (by omega), if_pos (by omega), if_pos (by omega), if_pos (show (o ++ [u]).length < 8796093022208 by simp; omega), rd40_mid o [] u _ (by omega), lastF_snoc]
        simp
    have hi1 : wrap64 (i + 1) = i + 1 := wrp _ (by omega) (by omega)
    cases rest with
    | nil =>
      refine Ev.step (f := fun k => if lastF out = some s.f1 then profile_tidy.l0 k (pre ++ [s]) out (pre ++ [s]) n (i + 1) else profile_tidy.l0 k (pre ++ [s]) (out ++ [s]) (pre ++ [s]) n (i + 1)) (fun k => by
        rw [profile_tidy.l0, if_pos (by omega), if_pos (by omega), if_pos (by omega), hi1, if_neg (by simp at hlen ⊢; omega), rd40_mid pre [] s i hi, key (fun k => profile_tidy.l0 k (pre ++ [s]) out (pre ++ [s]) n (i + 1)) k]) ?_
      by_cases h1 : lastF out = some s.f1
      · simp only [if_pos h1]
        have := tidy_l0 [] (pre ++ [s]) out (i + 1) n (by simp; omega) (by simpa using hn) (by simp; omega) (by simp; omega)
        simpa [td, h1] using this
      · simp only [if_neg h1]
        have := tidy_l0 [] (pre ++ [s]) (out ++ [s]) (i + 1) n (by simp; omega) (by simpa using hn) (by simp; omega) (by simp; omega)
        simpa [td, h1] using this
    | cons s' r =>
      have g2 : rd_T40 (pre ++ s :: s' :: r) (i + 1) = s' := by
        have := rd40_mid (pre ++ [s]) r s' (i + 1) (by simp; omega)
        simpa using this
      refine Ev.step (f := fun k => if s'.f0 = s.f0 then profile_tidy.l0 k (pre ++ s :: s' :: r) out (pre ++ s :: s' :: r) n (i + 1) else (if lastF out = some s.f1 then profile_tidy.l0 k (pre ++ s :: s' :: r) out (pre ++ s :: s' :: r) n (i + 1) else profile_tidy.l0 k (pre ++ s :: s' :: r) (out ++ [s]) (pre ++ s :: s' :: r) n (i + 1))) (fun k => by
        rw [profile_tidy.l0, if_pos (by omega), if_pos (by omega), if_pos (by omega), hi1, if_pos (by simp at hlen ⊢; omega), if_pos (by omega), rd40_mid pre (s' :: r) s i hi, g2, key (fun k => profile_tidy.l0 k (pre ++ s :: s' :: r) out (pre ++ s :: s' :: r) n (i + 1)) k]) ?_
      have skip := tidy_l0 (s' :: r) (pre ++ [s]) out (i + 1) n (by simp; omega) (by simpa using hn) (by simp at hl ⊢; omega) (by simp; omega)
      by_cases h0 : s'.f0 = s.f0
      · simp only [if_pos h0]
        have e : td (lastF out) (s :: s' :: r) = td (lastF out) (s' :: r) := by rw [td_cc, if_pos (.inl h0)]
        rw [e]
        simpa using skip
      · simp only [if_neg h0]
        by_cases h1 : lastF out = some s.f1
        · simp only [if_pos h1]
          have e : td (lastF out) (s :: s' :: r) = td (lastF out) (s' :: r) := by rw [td_cc, if_pos (.inr h1)]
          rw [e]
          simpa using skip
        · simp only [if_neg h1]
          have e : td (lastF out) (s :: s' :: r) = s :: td (some s.f1) (s' :: r) := by rw [td_cc, if_neg (fun h => h.elim h0 h1)]
          rw [e]
          have := tidy_l0 (s' :: r) (pre ++ [s]) (out ++ [s]) (i + 1) n (by simp; omega) (by simpa using hn) (by simp at hl ⊢; omega) (by simp; omega)
          rw [lastF_snoc] at this
          simpa using this
theorem tidy_f (l : List S40) (hl : l.length < 1099511627776) (hs : Asc l) : Ev (fun k => profile_tidy.f k l) (td none l, l) := by
  have h1 := SORT_Step__profile_tidy_1 tp40 cmp_tidy l hl
  rw [srt_isort tp40 (srt40.2 hs)] at h1
  refine Ev.bind h1 ?_
  exact tidy_l0 l [] [] 0 l.length rfl rfl (by simp; omega) (by simp)

/-! ### New, and the document's -/
/-- What is busy at a tick. -/
def bs (l : List S38) (t : Int) : Int := (l.map fun b => if b.f0 > t then b.f1 else 0).sum
theorem bs_cons (b : S38) (l : List S38) (t : Int) : bs (b :: l) t = (if b.f0 > t then b.f1 else 0) + bs l t := rfl
theorem bs_nil (t : Int) : bs [] t = 0 := rfl
theorem bs_append (l l' : List S38) (t : Int) : bs (l ++ l') t = bs l t + bs l' t := by
  induction l with
  | nil => simp [bs_nil]
  | cons b l ih => rw [List.cons_append, bs_cons, bs_cons, ih]; omega
theorem bs_perm {l l' : List S38} (h : l.Perm l') (t : Int) : bs l t = bs l' t := by
  induction h with
  | nil => rfl
  | cons b _ ih => rw [bs_cons, bs_cons, ih]
  | swap a b l => rw [bs_cons, bs_cons, bs_cons, bs_cons]; omega
  | trans _ _ h1 h2 => exact h1.trans h2
/-- Numbers of nodes that may be. -/
def Few (l : List S38) : Prop := l.length ≤ 1048576 ∧ ∀ b ∈ l, 0 ≤ b.f1 ∧ b.f1 ≤ 1048576
theorem bs_bound : ∀ (l : List S38) (t : Int), (∀ b ∈ l, 0 ≤ b.f1 ∧ b.f1 ≤ 1048576) → 0 ≤ bs l t ∧ bs l t ≤ 1048576 * l.length
  | [], t, _ => by simp [bs_nil]
  | b :: l, t, h => by
    have h1 := bs_bound l t (fun c hc => h c (by simp [hc]))
    have h2 := h b (by simp)
    rw [bs_cons, List.length_cons]
    split <;> omega
/-- The steps behind the first one, by those that end, in order. -/
def nw (now f : Int) : List S38 → List S40
  | [] => []
  | b :: r => if b.f0 > now then ⟨b.f0, f + b.f1⟩ :: nw now (f + b.f1) r else nw now f r
theorem nw_len (now : Int) : ∀ (l : List S38) (f : Int), (nw now f l).length ≤ l.length
  | [], f => by simp [nw]
  | b :: r, f => by
    unfold nw
    split
    · have := nw_len now r (f + b.f1); simp; omega
    · have := nw_len now r f; simp; omega
theorem nw_mem (now : Int) : ∀ (l : List S38) (f : Int), ∀ s ∈ nw now f l, now < s.f0 ∧ ∃ b ∈ l, b.f0 = s.f0
  | [], f, s, h => by simp [nw] at h
  | b :: r, f, s, h => by
    unfold nw at h
    split at h
    · next hb =>
      rcases List.mem_cons.1 h with rfl | h
      · exact ⟨hb, b, by simp, rfl⟩
      · obtain ⟨h1, c, hc, h2⟩ := nw_mem now r _ s h
        exact ⟨h1, c, by simp [hc], h2⟩
    · obtain ⟨h1, c, hc, h2⟩ := nw_mem now r _ s h
      exact ⟨h1, c, by simp [hc], h2⟩
theorem nw_asc (now : Int) : ∀ (l : List S38) (f : Int), l.Pairwise (fun a b => a.f0 ≤ b.f0) → Asc (nw now f l)
  | [], f, _ => by simp [nw]
  | b :: r, f, h => by
    have h' := List.pairwise_cons.1 h
    unfold nw
    split
    · refine List.pairwise_cons.2 ⟨fun s hs => ?_, nw_asc now r _ h'.2⟩
      obtain ⟨_, c, hc, h2⟩ := nw_mem now r _ s hs
      have := h'.1 c hc
      show b.f0 ≤ s.f0
      omega
    · exact nw_asc now r _ h'.2
theorem nw_ev (now : Int) : ∀ (l : List S38) (f t : Int), l.Pairwise (fun a b => a.f0 ≤ b.f0) → now ≤ t → evD f (nw now f l) t = f + bs l now - bs l t
  | [], f, t, _, _ => by simp [nw, evD_nil, bs_nil]
  | b :: r, f, t, h, ht => by
    have h' := List.pairwise_cons.1 h
    unfold nw
    rw [bs_cons, bs_cons]
    split
    · next hb =>
      rw [evD_cons]
      by_cases h1 : b.f0 ≤ t
      · rw [if_pos h1, if_neg (by omega)]
        show evD (f + b.f1) _ t = _
        rw [nw_ev now r (f + b.f1) t h'.2 ht]
        omega
      · rw [if_neg h1, if_pos (by omega), evD_far]
        · have : bs r now = bs r t := by
            clear h ht
            induction r with
            | nil => rfl
            | cons c r ih =>
              have h2 := h'.1 c (by simp)
              rw [bs_cons, bs_cons, if_pos (by omega), if_pos (by omega), ih ⟨fun d hd => h'.1 d (by simp [hd]), (List.pairwise_cons.1 h'.2).2⟩]
          omega
        · intro s hs
          obtain ⟨_, c, hc, h2⟩ := nw_mem now r _ s hs
          have := h'.1 c hc
          omega
    · next hb =>
      rw [if_neg (by omega), nw_ev now r f t h'.2 ht]
      omega
theorem new_l1 (now : Int) : ∀ (rest pre : List S38) (out : List S40) (f i n : Int), i = pre.length → n = (pre ++ rest).length → (pre ++ rest).length ≤ 1048576 → out.length ≤ pre.length + 1 → (∀ b ∈ rest, 0 ≤ b.f1 ∧ b.f1 ≤ 1048576) → -2305843009213693952 ≤ f → f + 1048576 * rest.length ≤ 2305843009213693952 → ∀ r,
    Ev (fun k => (profile_tidy.f k (out ++ nw now f rest)).bind fun b => some b.1) r → Ev (fun k => profile_New.l1 k now f out (pre ++ rest) n i) r
  | [], pre, out, f, i, n, hi, hn, hl, ho, hb, hf, hf2, r, h => by
    simp at hn
    refine Ev.step (fun k => by rw [profile_New.l1, if_neg (by omega)]) ?_
    simpa [nw] using h
  | b :: rest, pre, out, f, i, n, hi, hn, hl, ho, hb, hf, hf2, r, h => by
    have hlen : ((pre ++ b :: rest).length : Int) = pre.length + rest.length + 1 := by simp; omega
    simp only [List.length_append, List.length_cons] at hl
    have hb0 := hb b (by simp)
    simp only [List.length_cons] at hf2
    refine Ev.step (f := fun k => if b.f0 > now then profile_New.l1 k now (f + b.f1) (out ++ [(⟨b.f0, f + b.f1⟩ : S40)]) (pre ++ b :: rest) n (i + 1) else profile_New.l1 k now f out (pre ++ b :: rest) n (i + 1)) (fun k => by
      rw [profile_New.l1, if_pos (by omega), if_pos (by omega), if_pos (by omega), rd38_mid pre rest b i hi, wrp (f + b.f1) (by omega) (by omega), wrp (i + 1) (by omega) (by omega), if_pos (show out.length < 8796093022208 by omega)]) ?_
    unfold nw at h
    by_cases hbn : b.f0 > now
    · simp only [if_pos hbn] at h ⊢
      have := new_l1 now rest (pre ++ [b]) (out ++ [(⟨b.f0, f + b.f1⟩ : S40)]) (f + b.f1) (i + 1) n (by simp; omega) (by simpa using hn) (by simp; omega) (by simp; omega) (fun c hc => hb c (by simp [hc])) (by omega) (by omega) r (by simpa using h)
      simpa using this
    · simp only [if_neg hbn] at h ⊢
      have := new_l1 now rest (pre ++ [b]) out f (i + 1) n (by simp; omega) (by simpa using hn) (by simp; omega) (by simp; omega) (fun c hc => hb c (by simp [hc])) (by omega) (by omega) r h
      simpa using this
theorem new_l0 (now : Int) (all : List S38) : ∀ (rest pre : List S38) (f i n : Int), i = pre.length → n = (pre ++ rest).length → (pre ++ rest).length ≤ 1048576 → (∀ b ∈ rest, 0 ≤ b.f1 ∧ b.f1 ≤ 1048576) → -1152921504606846976 ≤ f - 1048576 * rest.length → f ≤ 1152921504606846976 → ∀ r,
    Ev (fun k => profile_New.l1 k now (f - bs rest now) [(⟨now, f - bs rest now⟩ : S40)] all all.length 0) r → Ev (fun k => profile_New.l0 k now all f (pre ++ rest) n i) r
  | [], pre, f, i, n, hi, hn, hl, hb, hf, hf2, r, h => by
    simp at hn
    refine Ev.step (fun k => by rw [profile_New.l0, if_neg (by omega)]) ?_
    simpa [bs_nil] using h
  | b :: rest, pre, f, i, n, hi, hn, hl, hb, hf, hf2, r, h => by
    have hlen : ((pre ++ b :: rest).length : Int) = pre.length + rest.length + 1 := by simp; omega
    simp only [List.length_append, List.length_cons] at hl
    have hb0 := hb b (by simp)
    simp only [List.length_cons] at hf
    refine Ev.step (f := fun k => profile_New.l0 k now all (if b.f0 > now then f - b.f1 else f) (pre ++ b :: rest) n (i + 1)) (fun k => by
      rw [profile_New.l0, if_pos (by omega), if_pos (by omega), if_pos (by omega), rd38_mid pre rest b i hi, wrp (f - b.f1) (by omega) (by omega), wrp (i + 1) (by omega) (by omega)]
      split <;> rfl) ?_
    have e : (if b.f0 > now then f - b.f1 else f) - bs rest now = f - bs (b :: rest) now := by rw [bs_cons]; split <;> omega
    have := new_l0 now all rest (pre ++ [b]) (if b.f0 > now then f - b.f1 else f) (i + 1) n (by simp; omega) (by simpa using hn) (by simp; omega) (fun c hc => hb c (by simp [hc])) (by split <;> omega) (by split <;> omega) r (by rw [e]; exact h)
    simpa using this
/-- The profile of what is busy. -/
def prof (now total : Int) (l : List S38) : List S40 := td none (⟨now, total - bs l now⟩ :: nw now (total - bs l now) (isort le38 l))
theorem few_isort {l : List S38} (h : Few l) : Few (isort le38 l) := ⟨by rw [isort_len]; exact h.1, fun b hb => h.2 b ((isort_perm (le := le38) l).mem_iff.1 hb)⟩
theorem srt38 (l : List S38) : (isort le38 l).Pairwise (fun a b => a.f0 ≤ b.f0) := (isort_srt tp38 l).imp (fun {a b} hab => by simpa [le38] using hab)
theorem new_f (now total : Int) (l : List S38) (hl : Few l) (ht : -4611686018427387 ≤ total) (ht2 : total ≤ 4611686018427387) : Ev (fun k => profile_New.f k now total l) (prof now total l) := by
  have hf := few_isort hl
  have hbd := bs_bound l now hl.2
  have hls : (isort le38 l).length = l.length := isort_len l
  have h1 := SORT_Busy__profile_New_1 tp38 cmp_New l (by have := hl.1; omega)
  have hl1 := hl.1
  have e : ∀ k, profile_New.f k now total l = (slices_SortStableFunc_Busy__profile_New_1.f k l).bind fun t => profile_New.l0 k now t total t (l.length : Int) 0 := fun k => by
    unfold profile_New.f slices_Clone_Busy.f
    rw [Option.bind_some, if_pos (by simp only [List.length_nil]; omega), Option.bind_some]
    rfl
  refine Ev.congr e (Ev.bind h1 ?_)
  have hb : bs (isort le38 l) now = bs l now := bs_perm (isort_perm l) now
  have h2 := new_l0 now (isort le38 l) (isort le38 l) [] total 0 l.length rfl (by simp [hls]) (by simpa using hf.1) hf.2 (by omega) (by omega) (prof now total l) ?_
  · simpa using h2
  · rw [hb]
    have h3 := new_l1 now (isort le38 l) [] [(⟨now, total - bs l now⟩ : S40)] (total - bs l now) 0 ((isort le38 l).length : Int) rfl (by simp) (by simpa using hf.1) (by simp) hf.2 (by omega) (by omega) (prof now total l) ?_
    · simpa using h3
    · have h4 := tidy_f (⟨now, total - bs l now⟩ :: nw now (total - bs l now) (isort le38 l)) (by have := nw_len now (isort le38 l) (total - bs l now); simp; omega)
        (List.pairwise_cons.2 ⟨fun s hs => by have := (nw_mem now _ _ s hs).1; show now ≤ s.f0; omega, nw_asc now _ _ (srt38 l)⟩)
      exact Ev.bind h4 (Ev.now _)
theorem prof_cn (now total : Int) (l : List S38) : Cn now (prof now total l) :=
  td_cn _ now (List.pairwise_cons.2 ⟨fun s hs => by have := (nw_mem now _ _ s hs).1; show now ≤ s.f0; omega, nw_asc now _ _ (srt38 l)⟩) (by simp) (fun s r h => by injection h with h _; rw [← h])
theorem prof_ev (now total : Int) (l : List S38) (t : Int) (ht : now ≤ t) : evD 0 (prof now total l) t = total - bs l t := by
  unfold prof
  rw [td_ev _ none 0 t (List.pairwise_cons.2 ⟨fun s hs => by have := (nw_mem now _ _ s hs).1; show now ≤ s.f0; omega, nw_asc now _ _ (srt38 l)⟩) (fun x hx => by cases hx), evD_cons, if_pos (show now ≤ t from ht)]
  show evD (total - bs l now) _ t = _
  rw [nw_ev now _ _ t (srt38 l) ht, bs_perm (isort_perm l) now, bs_perm (isort_perm l) t]
  omega
theorem td_len : ∀ (l : List S40) (last : Option Int), (td last l).length ≤ l.length
  | [], _ => by simp [td]
  | [s], last => by unfold td; split <;> simp
  | s :: s' :: r, last => by
    unfold td
    split
    · have := td_len (s' :: r) last; simp at this ⊢; omega
    · have := td_len (s' :: r) (some s.f1); simp at this ⊢; omega
theorem prof_len (now total : Int) (l : List S38) : (prof now total l).length ≤ l.length + 1 := by
  unfold prof
  have h1 := td_len (⟨now, total - bs l now⟩ :: nw now (total - bs l now) (isort le38 l)) none
  have h2 := nw_len now (isort le38 l) (total - bs l now)
  rw [isort_len] at h2
  simp at h1
  omega

/-! ### Take -/
/-- What is free when so many are taken from one tick up to another. -/
def cutAt (p : List S40) (at_ to_ nodes t : Int) : Int := evD 0 p t - (if at_ ≤ t ∧ t < to_ then nodes else 0)
theorem evD_same (p : List S40) (d u t : Int) (hut : u ≤ t) (h : ∀ s ∈ p, u < s.f0 → t < s.f0) : evD d p u = evD d p t := by
  induction p generalizing d with
  | nil => rfl
  | cons s p ih =>
    rw [evD_cons, evD_cons]
    have h1 := h s (by simp)
    have e : (if s.f0 ≤ u then s.f1 else d) = (if s.f0 ≤ t then s.f1 else d) := by
      by_cases h2 : s.f0 ≤ u
      · rw [if_pos h2, if_pos (by omega)]
      · rw [if_neg h2, if_neg (by have := h1 (by omega); omega)]
    rw [e]
    exact ih _ (fun s' hs' => h s' (by simp [hs']))
theorem Cn.asc {a : Int} {p : List S40} (h : Cn a p) : p.Pairwise (fun x y => x.f0 < y.f0) := by
  obtain ⟨x, r, rfl, hr⟩ := h
  have aux : ∀ (r : List S40) (a x : Int), Can a x r → (⟨a, x⟩ :: r : List S40).Pairwise (fun x y => x.f0 < y.f0) := by
    intro r
    induction r with
    | nil => intro a x _; simp
    | cons s r ih =>
      intro a x h
      exact List.pairwise_cons.2 ⟨fun u hu => Can.gt h u hu, ih s.f0 s.f1 h.2.2⟩
  exact aux r a x hr
theorem Cn.asc' {a : Int} {p : List S40} (h : Cn a p) : Asc p := h.asc.imp (fun {x y} hxy => by omega)
theorem Cn.ge {a : Int} {p : List S40} (h : Cn a p) : ∀ s ∈ p, a ≤ s.f0 := by
  obtain ⟨x, r, rfl, hr⟩ := h
  intro s hs
  rcases List.mem_cons.1 hs with rfl | hs
  · exact Int.le_refl _
  · have := Can.gt hr s hs; omega
/-- Where a step goes in among rising ones: it changes nothing where it says what is so already. -/
theorem ins_asc (s : S40) {l : List S40} (h : Asc l) : Asc (ins le40 s l) := srt40.1 (ins_srt tp40 s (srt40.2 h))
theorem isort_asc (l : List S40) : Asc (isort le40 l) := srt40.1 (isort_srt tp40 l)
/-- Of rising lists of steps with the same steps at each tick in the same order, the reading is the same. -/
theorem evD_ascfilter : ∀ (l : List S40) (d t : Int), evD d l t = evD d (l.filter (fun s => decide (s.f0 ≤ t))) t
  | [], _, _ => rfl
  | s :: l, d, t => by
    rw [evD_cons, List.filter_cons]
    by_cases h : s.f0 ≤ t
    · rw [if_pos h, if_pos (by simpa using h), evD_cons, if_pos h, evD_ascfilter l]
    · rw [if_neg h, if_neg (by simpa using h), evD_ascfilter l]
theorem evD_last {l : List S40} {d t : Int} (s : S40) (h : ∀ u ∈ l ++ [s], u.f0 ≤ t) : evD d (l ++ [s]) t = s.f1 := by
  rw [evD_append, evD_cons, if_pos (h s (by simp)), evD_nil]
/-- The last step that has begun. -/
theorem evD_char {l : List S40} (hs : Asc l) {d t : Int} {s : S40} (pre post : List S40) (hl : l = pre ++ s :: post) (h1 : s.f0 ≤ t) (h2 : ∀ u ∈ post, t < u.f0) : evD d l t = s.f1 := by
  rw [hl, evD_append, evD_cons, if_pos h1, evD_far _ _ _ h2]
theorem evD_split {l : List S40} (hs : Asc l) (t : Int) (h : ∃ s ∈ l, s.f0 ≤ t) : ∃ pre s post, l = pre ++ s :: post ∧ s.f0 ≤ t ∧ ∀ u ∈ post, t < u.f0 := by
  induction l with
  | nil => obtain ⟨s, hs, _⟩ := h; simp at hs
  | cons x l ih =>
    have hs' := List.pairwise_cons.1 hs
    by_cases h1 : ∃ s ∈ l, s.f0 ≤ t
    · obtain ⟨pre, s, post, e, h2, h3⟩ := ih hs'.2 h1
      exact ⟨x :: pre, s, post, by rw [e]; rfl, h2, h3⟩
    · obtain ⟨s, hs2, hst⟩ := h
      rcases List.mem_cons.1 hs2 with rfl | hs2
      · exact ⟨[], s, l, rfl, hst, fun u hu => Int.not_le.1 (fun h4 => h1 ⟨u, hu, h4⟩)⟩
      · exact absurd ⟨s, hs2, hst⟩ h1
/-- A property of (tick, height) that holds of all steps holds of what is read. -/
theorem evD_of {l : List S40} {d t : Int} (hs : Asc l) (h : ∃ s ∈ l, s.f0 ≤ t) : ∃ s ∈ l, s.f0 ≤ t ∧ (∀ u ∈ l, u.f0 ≤ t → u.f0 ≤ s.f0) ∧ evD d l t = s.f1 := by
  obtain ⟨pre, s, post, e, h1, h2⟩ := evD_split hs t h
  refine ⟨s, by rw [e]; simp, h1, fun u hu hut => ?_, evD_char hs pre post e h1 h2⟩
  rw [e] at hu hs
  have hp := List.pairwise_append.1 hs
  rcases List.mem_append.1 hu with hu | hu
  · exact hp.2.2 u hu s (by simp)
  · rcases List.mem_cons.1 hu with rfl | hu
    · exact Int.le_refl _
    · have := h2 u hu; omega
/-- The loop of Take: those from one tick up to another are less. -/
def cutL (nodes f t : Int) (l : List S40) : List S40 := l.map fun s => if s.f0 ≥ f ∧ s.f0 < t then ⟨s.f0, s.f1 - nodes⟩ else s
theorem cutL_asc {nodes f t : Int} {l : List S40} (h : Asc l) : Asc (cutL nodes f t l) := by
  unfold cutL Asc
  rw [List.pairwise_map]
  refine h.imp (fun {a b} hab => ?_)
  have e : ∀ s : S40, (if s.f0 ≥ f ∧ s.f0 < t then (⟨s.f0, s.f1 - nodes⟩ : S40) else s).f0 = s.f0 := fun s => by split <;> rfl
  rw [e, e]; exact hab
/-- Profiles that may be: not too long, their numbers not too great. -/
structure Ok (a : Int) (p : List S40) : Prop where
  cn : Cn a p
  len : p.length ≤ 1048576
  pos : 0 ≤ a
  at_ : ∀ s ∈ p, s.f0 ≤ 2251799813685248
  fr : ∀ s ∈ p, -1125899906842624 ≤ s.f1 ∧ s.f1 ≤ 1125899906842624
theorem mx_eq (a b : Int) : mx a b = max a b := by unfold mx; omega
/-- What Take answers. -/
def takeP (a : Int) (p : List S40) (at_ long nodes : Int) : List S40 :=
  td none (cutL nodes (max at_ a) (max (at_ + max long 0) a) (isort le40 (p ++ [⟨max at_ a, evD 0 p (max at_ a)⟩, ⟨max (at_ + max long 0) a, evD 0 p (max (at_ + max long 0) a)⟩])))
theorem evD_bound {a : Int} {p : List S40} (h : Ok a p) (t : Int) : -1125899906842624 ≤ evD 0 p t ∧ evD 0 p t ≤ 1125899906842624 := by
  have aux : ∀ (l : List S40) (d : Int), (∀ s ∈ l, -1125899906842624 ≤ s.f1 ∧ s.f1 ≤ 1125899906842624) → (-1125899906842624 ≤ d ∧ d ≤ 1125899906842624) → -1125899906842624 ≤ evD d l t ∧ evD d l t ≤ 1125899906842624 := by
    intro l
    induction l with
    | nil => intro d _ hd; exact hd
    | cons s l ih =>
      intro d h hd
      rw [evD_cons]
      exact ih _ (fun u hu => h u (by simp [hu])) (by split; exact h s (by simp); exact hd)
  exact aux p 0 h.fr (by omega)
/-- What is read behind Take. -/
theorem takeP_spec {a : Int} {p : List S40} (h : Ok a p) (at_ long nodes : Int) : Cn a (takeP a p at_ long nodes) ∧ ∀ t, a ≤ t → evD 0 (takeP a p at_ long nodes) t = cutAt p at_ (at_ + max long 0) nodes t := by
  obtain ⟨x, q, hp, hq⟩ := h.cn
  obtain ⟨f, hf⟩ : ∃ f, max at_ a = f := ⟨_, rfl⟩
  obtain ⟨u, hu⟩ : ∃ u, max (at_ + max long 0) a = u := ⟨_, rfl⟩
  obtain ⟨y, hy⟩ : ∃ y, y = isort le40 (p ++ [⟨f, evD 0 p f⟩, ⟨u, evD 0 p u⟩]) := ⟨_, rfl⟩
  have e : takeP a p at_ long nodes = td none (cutL nodes f u y) := by unfold takeP; rw [hf, hu, hy]
  have hmem : ∀ s, s ∈ y ↔ s ∈ p ∨ s = ⟨f, evD 0 p f⟩ ∨ s = ⟨u, evD 0 p u⟩ := fun s => by
    rw [hy, (isort_perm (le := le40) _).mem_iff, List.mem_append]; simp
  have yasc : Asc y := by rw [hy]; exact isort_asc _
  have ygea : ∀ s ∈ y, a ≤ s.f0 := fun s hs => by
    rcases (hmem s).1 hs with hs | rfl | rfl
    · exact h.cn.ge s hs
    · show a ≤ f; omega
    · show a ≤ u; omega
  have pa : (⟨a, x⟩ : S40) ∈ y := (hmem _).2 (.inl (by rw [hp]; simp))
  have ypair : ∀ s ∈ y, ∃ w, a ≤ w ∧ s = ⟨w, evD 0 p w⟩ := fun s hs => by
    rcases (hmem s).1 hs with hs | rfl | rfl
    · refine ⟨s.f0, h.cn.ge s hs, ?_⟩
      have : evD 0 p s.f0 = s.f1 := by
        obtain ⟨pre, post, hsp⟩ := List.append_of_mem hs
        have hasc := h.cn.asc
        rw [hsp] at hasc
        exact evD_char h.cn.asc' pre post hsp (Int.le_refl _) (fun v hv => (List.pairwise_cons.1 (List.pairwise_append.1 hasc).2.1).1 v hv)
      rw [this]
    · exact ⟨f, by omega, rfl⟩
    · exact ⟨u, by omega, rfl⟩
  have casc := cutL_asc (nodes := nodes) (f := f) (t := u) yasc
  have hne : cutL nodes f u y ≠ [] := fun e0 => by
    have : y = [] := by simpa [cutL] using e0
    rw [this] at pa; simp at pa
  refine ⟨?_, fun t ht => ?_⟩
  · rw [e]
    refine td_cn _ a casc hne (fun s r hs => ?_)
    -- the first one stands at a
    cases y with
    | nil => simp at pa
    | cons y0 yr =>
      have h0 : s.f0 = y0.f0 := by
        simp only [cutL, List.map_cons, List.cons.injEq] at hs
        rw [← hs.1]; split <;> rfl
      have h1 := ygea y0 (by simp)
      have h2 : y0.f0 ≤ a := by
        rcases List.mem_cons.1 pa with e1 | e1
        · rw [← e1]; exact Int.le_refl _
        · exact (List.pairwise_cons.1 yasc).1 _ e1
      omega
  · rw [e, td_ev _ none 0 t casc (fun x hx => by cases hx)]
    obtain ⟨pre, s, post, hsp, hst, hpost⟩ := evD_split yasc t ⟨⟨a, x⟩, pa, ht⟩
    have hsy : s ∈ y := by rw [hsp]; simp
    obtain ⟨w, hw, hsw⟩ := ypair s hsy
    have hc : evD 0 (cutL nodes f u y) t = (if s.f0 ≥ f ∧ s.f0 < u then (⟨s.f0, s.f1 - nodes⟩ : S40) else s).f1 := by
      refine evD_char casc (cutL nodes f u pre) (cutL nodes f u post) (by rw [hsp]; simp [cutL]) (by split <;> exact hst) (fun v hv => ?_)
      unfold cutL at hv
      obtain ⟨v', hv', rfl⟩ := List.mem_map.1 hv
      have := hpost v' hv'
      split <;> exact this
    rw [hc]
    have hmax : ∀ v ∈ y, v.f0 ≤ t → v.f0 ≤ s.f0 := fun v hv hvt => by
      rw [hsp] at hv yasc
      rcases List.mem_append.1 hv with hv | hv
      · exact (List.pairwise_append.1 yasc).2.2 v hv s (by simp)
      · rcases List.mem_cons.1 hv with rfl | hv
        · exact Int.le_refl _
        · have := hpost v hv; omega
    have hsf : s.f0 = w := by rw [hsw]
    have hsv : s.f1 = evD 0 p w := by rw [hsw]
    have hsame : evD 0 p w = evD 0 p t := evD_same p 0 w t (by omega) (fun v hv hwv => by
      apply Int.not_le.1
      intro hvt
      have := hmax v ((hmem v).2 (.inl hv)) hvt
      omega)
    have hf1 := hmax ⟨f, evD 0 p f⟩ ((hmem _).2 (.inr (.inl rfl)))
    have hu1 := hmax ⟨u, evD 0 p u⟩ ((hmem _).2 (.inr (.inr rfl)))
    have hf2 : f ≤ t → f ≤ s.f0 := hf1
    have hu2 : u ≤ t → u ≤ s.f0 := hu1
    unfold cutAt
    by_cases h7 : s.f0 ≥ f ∧ s.f0 < u
    · rw [if_pos h7, if_pos (by omega)]
      show s.f1 - nodes = _
      rw [hsv, hsame]
    · rw [if_neg h7, if_neg (by omega), hsv, hsame]
      omega
theorem cutAt_same (p : List S40) (at_ to_ nodes u t : Int) (hut : u ≤ t) (h : ∀ x ∈ at_ :: to_ :: p.map (·.f0), u < x → t < x) : cutAt p at_ to_ nodes u = cutAt p at_ to_ nodes t := by
  unfold cutAt
  rw [evD_same p 0 u t hut (fun s hs => h s.f0 (by simp only [List.mem_cons, List.mem_map]; exact .inr (.inr ⟨s, hs, rfl⟩)))]
  have h1 := h at_ (by simp)
  have h2 := h to_ (by simp)
  have : (at_ ≤ u ∧ u < to_) ↔ (at_ ≤ t ∧ t < to_) := by omega
  by_cases h3 : at_ ≤ u ∧ u < to_
  · rw [if_pos h3, if_pos (this.1 h3)]
  · rw [if_neg h3, if_neg (fun h4 => h3 (this.2 h4))]

/-! ### Fit -/
/-- Do so many fit from the first one's tick on, for so long? -/
def fitsP (nodes long a : Int) : List S40 → Bool
  | [] => true
  | s :: r => if s.f0 - a < long then (if s.f1 < nodes then false else fitsP nodes long a r) else true
theorem fitsP_cons (nodes long a : Int) (s : S40) (r : List S40) : fitsP nodes long a (s :: r) = if s.f0 - a < long then (if s.f1 < nodes then false else fitsP nodes long a r) else true := by rw [fitsP]
/-- The first place from which they fit. -/
def fitP (nodes long : Int) : List S40 → Int × Bool
  | [] => (0, false)
  | s :: r => if fitsP nodes long s.f0 (s :: r) = true then (s.f0, true) else fitP nodes long r
theorem fitsP_before (nodes long a : Int) : ∀ (pre rest : List S40), fitsP nodes long a (pre ++ rest) = if fitsP nodes long a pre = false then false else (if ∀ s ∈ pre, s.f0 - a < long then fitsP nodes long a rest else true)
  | [], rest => by simp [fitsP]
  | s :: pre, rest => by
    rw [List.cons_append, fitsP_cons, fitsP_cons]
    by_cases h1 : s.f0 - a < long
    · rw [if_pos h1, if_pos h1]
      by_cases h2 : s.f1 < nodes
      · rw [if_pos h2, if_pos h2]; simp
      · rw [if_neg h2, if_neg h2, fitsP_before nodes long a pre rest]
        by_cases h3 : fitsP nodes long a pre = false
        · rw [if_pos h3, if_pos h3]
        · rw [if_neg h3, if_neg h3]
          by_cases h4 : ∀ u ∈ pre, u.f0 - a < long
          · rw [if_pos h4, if_pos (fun u hu => by rcases List.mem_cons.1 hu with rfl | hu
                                                  · exact h1
                                                  · exact h4 u hu)]
          · rw [if_neg h4, if_neg (fun h5 => h4 (fun u hu => h5 u (by simp [hu])))]
    · rw [if_neg h1, if_neg h1, if_neg (by simp), if_neg (fun h5 => h1 (h5 s (by simp)))]
theorem fitP_cons (nodes long : Int) (s : S40) (r : List S40) : fitP nodes long (s :: r) = if fitsP nodes long s.f0 (s :: r) = true then (s.f0, true) else fitP nodes long r := by rw [fitP]
/-- No place of pre fits, whatever follows (in rising order) from 'rest' on. -/
theorem fitP_skip (nodes long : Int) : ∀ (pre rest : List S40), (∀ p0 s p1, pre = p0 ++ s :: p1 → fitsP nodes long s.f0 (s :: p1 ++ rest) = false) → fitP nodes long (pre ++ rest) = fitP nodes long rest
  | [], rest, _ => rfl
  | s :: pre, rest, h => by
    rw [List.cons_append]
    have h1 := h [] s pre rfl
    rw [List.cons_append] at h1
    conv => lhs; unfold fitP
    rw [if_neg (by rw [h1]; simp)]
    exact fitP_skip nodes long pre rest (fun p0 u p1 e => h (s :: p0) u p1 (by rw [e]; rfl))
/-- profile.Fit's loop: nothing before 'from' fits; from there on all so far are enough, and none is far enough. -/
theorem fit_l0 {p : List S40} (hl : p.length < 1099511627776) (hasc : p.Pairwise (fun x y => x.f0 < y.f0)) (hb : ∀ s ∈ p, 0 ≤ s.f0 ∧ s.f0 ≤ 2251799813685248) (nodes long : Int) : ∀ (rest pre : List S40) (from_ i n : Int), pre ++ rest = p → i = pre.length → n = p.length →
    ((from_ = -1 ∧ fitP nodes (max long 1) p = fitP nodes (max long 1) rest) ∨
     (∃ p0 s p1, pre = p0 ++ s :: p1 ∧ from_ = p0.length ∧ fitP nodes (max long 1) p = fitP nodes (max long 1) (s :: p1 ++ rest) ∧ (∀ u ∈ s :: p1, nodes ≤ u.f1) ∧ (∀ u ∈ s :: p1, u.f0 - s.f0 < max long 1) ∧ (∀ u r, rest = u :: r → u.f0 - s.f0 < max long 1) ∧ rest ≠ [])) →
    Ev (fun k => profile_Fit.l0 k p nodes long from_ p n i) (fitP nodes (max long 1) p)
  | [], pre, from_, i, n, hpr, hi, hn, h => by
    have hpl : p.length = pre.length := by rw [← hpr]; simp
    rcases h with ⟨_, h⟩ | ⟨_, _, _, _, _, _, _, _, _, h⟩
    · rw [h]
      exact Ev.step (f := fun _ => some (0, false)) (fun k => by rw [profile_Fit.l0, if_neg (by omega)]) (Ev.now _)
    · exact absurd rfl h
  | s :: rest, pre, from_, i, n, hpr, hi, hn, h => by
    have hpl : (p.length : Int) = pre.length + rest.length + 1 := by rw [← hpr]; simp; omega
    have g : rd_T40 p i = s := by rw [← hpr]; exact rd40_mid pre rest s i hi
    have hi1 : wrap64 (i + 1) = i + 1 := wrp _ (by omega) (by omega)
    have hmx : mx long 1 = max long 1 := mx_eq long 1
    have hpr' : (pre ++ [s]) ++ rest = p := by simpa using hpr
    have hi' : i + 1 = ((pre ++ [s]).length : Int) := by simp; omega
    by_cases h1 : s.f1 < nodes
    · -- too few: nothing up to here fits
      refine Ev.step (f := fun k => profile_Fit.l0 k p nodes long (-1) p n (i + 1)) (fun k => by
        rw [profile_Fit.l0, if_pos (by omega), if_pos (by omega), if_pos (by omega), g, if_pos h1, if_neg (by omega), hi1]) ?_
      refine fit_l0 hl hasc hb nodes long rest (pre ++ [s]) (-1) (i + 1) n hpr' hi' hn (.inl ⟨rfl, ?_⟩)
      have hs : fitsP nodes (max long 1) s.f0 (s :: rest) = false := by unfold fitsP; rw [if_pos (by omega), if_pos h1]
      have hs2 : fitP nodes (max long 1) (s :: rest) = fitP nodes (max long 1) rest := by
        conv => lhs; unfold fitP
        rw [if_neg (by rw [hs]; simp)]
      rcases h with ⟨_, h⟩ | ⟨p0, u, p1, hpre, _, h, h2, h3, h4, _⟩
      · rw [h, hs2]
      · rw [h, fitP_skip nodes (max long 1) (u :: p1) (s :: rest) (fun q0 v q1 e => ?_), hs2]
        -- from v on: all of q1 are near, and s is too few
        have hv : v ∈ u :: p1 := by rw [e]; simp
        have huv : u.f0 ≤ v.f0 := by
          rw [← hpr, hpre] at hasc
          have h5 := (List.pairwise_append.1 (List.pairwise_append.1 hasc).1).2.1
          rcases List.mem_cons.1 hv with rfl | hv
          · exact Int.le_refl _
          · have := (List.pairwise_cons.1 h5).1 v hv; omega
        rw [show v :: q1 ++ s :: rest = (v :: q1) ++ (s :: rest) from rfl, fitsP_before]
        by_cases h6 : fitsP nodes (max long 1) v.f0 (v :: q1) = false
        · rw [if_pos h6]
        · rw [if_neg h6, if_pos (fun w hw => by have := h3 w (by rw [e]; exact List.mem_append_right _ hw); omega)]
          unfold fitsP
          rw [if_pos (by have := h4 s rest rfl; omega), if_pos h1]
    · -- enough: 'from' is told
      obtain ⟨p0, u, p1, hpre, hfrom, hfit, h2, h3⟩ : ∃ p0 u p1, pre ++ [s] = p0 ++ u :: p1 ∧ (if from_ < 0 then i else from_) = p0.length ∧ fitP nodes (max long 1) p = fitP nodes (max long 1) (u :: p1 ++ rest) ∧ (∀ v ∈ u :: p1, nodes ≤ v.f1) ∧ (∀ v ∈ u :: p1, v.f0 - u.f0 < max long 1) := by
        rcases h with ⟨hf, h⟩ | ⟨p0, u, p1, hpre, hf, h, h2, h3, h4, _⟩
        · refine ⟨pre, s, [], rfl, by rw [if_pos (by omega), hi], by simpa using h, fun v hv => ?_, fun v hv => ?_⟩
          · simp only [List.mem_singleton] at hv; rw [hv]; omega
          · simp only [List.mem_singleton] at hv; rw [hv]; omega
        · refine ⟨p0, u, p1 ++ [s], by rw [hpre]; simp, by rw [if_neg (by omega), hf], by rw [h]; simp, fun v hv => ?_, fun v hv => ?_⟩
          · rw [← List.cons_append] at hv
            rcases List.mem_append.1 hv with hv | hv
            · exact h2 v hv
            · simp only [List.mem_singleton] at hv; rw [hv]; omega
          · rw [← List.cons_append] at hv
            rcases List.mem_append.1 hv with hv | hv
            · exact h3 v hv
            · simp only [List.mem_singleton] at hv; rw [hv]; exact h4 s rest rfl
      obtain ⟨fr, hfr⟩ : ∃ fr, (if from_ < 0 then i else from_) = fr := ⟨_, rfl⟩
      rw [hfr] at hfrom
      have hp01 : (pre.length : Int) + 1 = p0.length + 1 + p1.length := by have := congrArg List.length hpre; simp at this; omega
      have gu : rd_T40 p fr = u := by rw [← hpr', hpre]; have := rd40_mid p0 (p1 ++ rest) u fr hfrom; simpa using this
      have bu := hb u (by rw [← hpr', hpre]; simp)
      have hfits : (∀ v r, rest = v :: r → ¬ v.f0 - u.f0 < max long 1) → fitP nodes (max long 1) (u :: p1 ++ rest) = (u.f0, true) := fun hfar => by
        have e : fitsP nodes (max long 1) u.f0 (u :: p1 ++ rest) = true := by
          rw [fitsP_before, if_neg, if_pos h3]
          · cases rest with
            | nil => rfl
            | cons v r => unfold fitsP; rw [if_neg (hfar v r rfl)]
          · have : ∀ l : List S40, (∀ v ∈ l, nodes ≤ v.f1) → fitsP nodes (max long 1) u.f0 l ≠ false := by
              intro l
              induction l with
              | nil => intro _; simp [fitsP]
              | cons v l ih =>
                intro hh
                unfold fitsP
                split
                · rw [if_neg (by have := hh v (by simp); omega)]; exact ih (fun w hw => hh w (by simp [hw]))
                · simp
            exact this _ h2
        rw [List.cons_append] at e ⊢
        unfold fitP
        rw [if_pos e]
      cases rest with
      | nil =>
        rw [hfit, hfits (fun v r e => by cases e)]
        refine Ev.step (f := fun _ => some (u.f0, true)) (fun k => ?_) (Ev.now _)
        have hl1 : wrap64 (i + 1) = (p.length : Int) := by simp at hpl; omega
        rw [profile_Fit.l0, if_pos (by omega), if_pos (by omega), if_pos (by omega), g, if_neg h1]
        by_cases h5 : from_ < 0
        · rw [if_pos h5] at hfr
          rw [if_pos h5, if_pos (by omega), if_pos hl1, if_pos (by omega), show s = u by rw [← g, hfr]; exact gu]
        · rw [if_neg h5] at hfr
          rw [if_neg h5, if_pos (by omega), if_pos hl1, if_pos (by omega), if_pos (by omega), show rd_T40 p from_ = u by rw [hfr]; exact gu]
      | cons v r =>
        have gv : rd_T40 p (i + 1) = v := by rw [← hpr']; exact rd40_mid (pre ++ [s]) r v (i + 1) hi'
        have bv := hb v (by rw [← hpr']; simp)
        simp only [List.length_cons] at hpl
        refine Ev.step (f := fun k => if v.f0 - u.f0 ≥ max long 1 then some (u.f0, true) else profile_Fit.l0 k p nodes long fr p n (i + 1)) (fun k => by
          rw [profile_Fit.l0, if_pos (by omega), if_pos (by omega), if_pos (by omega), g, if_neg h1, hi1, hmx, gv]
          by_cases h5 : from_ < 0
          · rw [if_pos h5] at hfr
            rw [if_pos h5, if_pos (by omega), if_neg (by omega), if_pos (by omega), if_pos (by omega), if_pos (by omega), show s = u by rw [← g, hfr]; exact gu, wrp (v.f0 - u.f0) (by omega) (by omega), hfr]
          · rw [if_neg h5] at hfr
            rw [if_neg h5, if_pos (by omega), if_neg (by omega), if_pos (by omega), if_pos (by omega), if_pos (by omega), if_pos (by omega), show rd_T40 p from_ = u by rw [hfr]; exact gu, wrp (v.f0 - u.f0) (by omega) (by omega), hfr]) ?_
        by_cases h6 : v.f0 - u.f0 ≥ max long 1
        · simp only [if_pos h6]
          rw [hfit, hfits (fun w q e => by injection e with e _; rw [← e]; omega)]
          exact Ev.now _
        · simp only [if_neg h6]
          exact fit_l0 hl hasc hb nodes long (v :: r) (pre ++ [s]) fr (i + 1) n hpr' hi' hn (.inr ⟨p0, u, p1, hpre, hfrom, hfit, h2, h3, fun w q e => by injection e with e _; rw [← e]; omega, by simp⟩)
theorem fit_f {p : List S40} (hl : p.length < 1099511627776) (hasc : p.Pairwise (fun x y => x.f0 < y.f0)) (hb : ∀ s ∈ p, 0 ≤ s.f0 ∧ s.f0 ≤ 2251799813685248) (nodes long : Int) : Ev (fun k => profile_Fit.f k p nodes long) (fitP nodes (max long 1) p) :=
  fit_l0 hl hasc hb nodes long p [] (-1) 0 p.length rfl rfl rfl (.inl ⟨rfl, rfl⟩)

/-! ### what may be -/
def held (n most : Int) : Int := if n < 0 then 0 else if n > most then most else n
theorem held_f (n most : Int) : prebendref16_Held.f n most = some (held n most) := by unfold prebendref16_Held.f held; split <;> (try split) <;> rfl
theorem held_bd (n most : Int) (h : 0 ≤ most) : 0 ≤ held n most ∧ held n most ≤ most := by unfold held; split <;> (try split) <;> omega
def busyH (l : List S38) : List S38 := (l.take 40).map fun b => ⟨held b.f0 1125899906842624, held b.f1 1048576⟩
theorem busy_l0 (l : List S38) : ∀ (rest pre : List S38) (i : Int), pre ++ rest = l → i = pre.length → pre.length ≤ 40 →
    Ev (fun k => prebendref16_Busy.l0 k l (pre.map fun b => ⟨held b.f0 1125899906842624, held b.f1 1048576⟩) i) (busyH l)
  | [], pre, i, hpr, hi, hp => by
    have e : pre = l := by simpa using hpr
    subst e
    refine Ev.step (f := fun k => prebendref16_Busy.j1 k pre (pre.map fun b => ⟨held b.f0 1125899906842624, held b.f1 1048576⟩) i false) (fun k => by rw [prebendref16_Busy.l0, if_neg (by omega)]) ?_
    refine Ev.step (f := fun _ => some (busyH pre)) (fun k => ?_) (Ev.now _)
    rw [prebendref16_Busy.j1, if_neg (by simp)]
    unfold busyH
    rw [List.take_of_length_le hp]
  | b :: rest, pre, i, hpr, hi, hp => by
    have hpl : (l.length : Int) = pre.length + rest.length + 1 := by rw [← hpr]; simp; omega
    have g : rd_T38 l i = b := by rw [← hpr]; exact rd38_mid pre rest b i hi
    refine Ev.step (f := fun k => prebendref16_Busy.j1 k l (pre.map fun b => ⟨held b.f0 1125899906842624, held b.f1 1048576⟩) i (decide (i < 40))) (fun k => by rw [prebendref16_Busy.l0, if_pos (by omega)]) ?_
    by_cases h4 : i < 40
    · rw [decide_eq_true h4]
      refine Ev.step (f := fun k => prebendref16_Busy.l0 k l ((pre ++ [b]).map fun b => ⟨held b.f0 1125899906842624, held b.f1 1048576⟩) (i + 1)) (fun k => by
        rw [prebendref16_Busy.j1, if_pos rfl, if_pos (by omega), if_pos (by omega), g, held_f, Option.bind_some, held_f, Option.bind_some, if_pos (by rw [List.length_map]; omega), wrp (i + 1) (by omega) (by omega), List.map_append]
        rfl) ?_
      exact busy_l0 l rest (pre ++ [b]) (i + 1) (by simpa using hpr) (by simp; omega) (by simp; omega)
    · rw [decide_eq_false h4]
      refine Ev.step (f := fun _ => some (busyH l)) (fun k => ?_) (Ev.now _)
      rw [prebendref16_Busy.j1, if_neg (by simp)]
      unfold busyH
      rw [← hpr, List.take_append_of_le_length (by omega), List.take_of_length_le (by omega)]
theorem busy_f (l : List S38) : Ev (fun k => prebendref16_Busy.f k l) (busyH l) := busy_l0 l l [] 0 rfl rfl (by simp)
theorem busyH_few (l : List S38) : Few (busyH l) := by
  refine ⟨by unfold busyH; rw [List.length_map, List.length_take]; omega, fun b hb => ?_⟩
  unfold busyH at hb
  obtain ⟨c, _, rfl⟩ := List.mem_map.1 hb
  exact held_bd c.f1 1048576 (by omega)
theorem busyH_at (l : List S38) : ∀ b ∈ busyH l, 0 ≤ b.f0 ∧ b.f0 ≤ 1125899906842624 := fun b hb => by
  unfold busyH at hb
  obtain ⟨c, _, rfl⟩ := List.mem_map.1 hb
  exact held_bd c.f0 1125899906842624 (by omega)
theorem busyH_len (l : List S38) : (busyH l).length ≤ 40 := by unfold busyH; rw [List.length_map, List.length_take]; omega

/-! ### profiles that may be, behind so many cuts -/
structure Okc (a : Int) (p : List S40) (c : Nat) : Prop where
  cn : Cn a p
  len : p.length ≤ 64 + 2 * c
  pos : 0 ≤ a
  at_ : ∀ s ∈ p, s.f0 ≤ 1125899906842624
  fr : ∀ s ∈ p, -1073741824 - 1048576 * (c : Int) ≤ s.f1 ∧ s.f1 ≤ 1073741824
theorem Okc.ok {a : Int} {p : List S40} {c : Nat} (h : Okc a p c) (hc : c ≤ 100000) : Ok a p where
  cn := h.cn
  len := by have := h.len; omega
  pos := h.pos
  at_ := fun s hs => by have := h.at_ s hs; omega
  fr := fun s hs => by have := h.fr s hs; omega
/-- A step of a profile says what is read at its tick. -/
theorem Cn.read {a : Int} {p : List S40} (h : Cn a p) (s : S40) (hs : s ∈ p) : evD 0 p s.f0 = s.f1 := by
  obtain ⟨pre, post, hsp⟩ := List.append_of_mem hs
  have hasc := h.asc
  rw [hsp] at hasc
  exact evD_char h.asc' pre post hsp (Int.le_refl _) (fun v hv => (List.pairwise_cons.1 (List.pairwise_append.1 hasc).2.1).1 v hv)
theorem prof_ok (now total : Int) (l : List S38) (h0 : 0 ≤ now) (h1 : now ≤ 1125899906842624) (ht : 0 ≤ total) (ht2 : total ≤ 1048576) (hl : l.length ≤ 60) (hn : ∀ b ∈ l, 0 ≤ b.f1 ∧ b.f1 ≤ 1048576) (hb : ∀ b ∈ l, b.f0 ≤ 1125899906842624) : Okc now (prof now total l) 0 where
  cn := prof_cn now total l
  len := by have := prof_len now total l; omega
  pos := h0
  at_ := fun s hs => by
    have := td_mem _ _ s hs
    rcases List.mem_cons.1 this with rfl | h
    · exact h1
    · obtain ⟨_, b, hb2, e⟩ := nw_mem now _ _ s h
      have := hb b ((isort_perm (le := le38) l).mem_iff.1 hb2)
      omega
  fr := fun s hs => by
    have h2 := (prof_cn now total l).read s hs
    rw [prof_ev now total l s.f0 ((prof_cn now total l).ge s hs)] at h2
    have := bs_bound l s.f0 hn
    omega
theorem cutL_len (n f t : Int) (l : List S40) : (cutL n f t l).length = l.length := by simp [cutL]
theorem takeP_ok {a : Int} {p : List S40} {c : Nat} (h : Okc a p c) (hc : c ≤ 1000) (at_ long nodes : Int) (h1 : at_ + max long 0 ≤ 1125899906842624) (h1' : at_ ≤ 1125899906842624) (h2 : 0 ≤ nodes) (h3 : nodes ≤ 1048576) : Okc a (takeP a p at_ long nodes) (c + 1) := by
  have hs := takeP_spec (h.ok (by omega)) at_ long nodes
  obtain ⟨x, q, hp, hq⟩ := h.cn
  have ha : a ≤ 1125899906842624 := h.at_ ⟨a, x⟩ (by rw [hp]; simp)
  have hm : ∀ s ∈ takeP a p at_ long nodes, s.f0 ≤ 1125899906842624 := fun s hs => by
    have h4 := td_mem _ _ s hs
    unfold cutL at h4
    obtain ⟨u, hu, rfl⟩ := List.mem_map.1 h4
    have h5 := (isort_perm (le := le40) _).mem_iff.1 hu
    have h6 : u.f0 ≤ 1125899906842624 := by
      rcases List.mem_append.1 h5 with h5 | h5
      · exact h.at_ u h5
      · simp only [List.mem_cons, List.not_mem_nil, or_false] at h5
        rcases h5 with rfl | rfl
        · show max at_ a ≤ _; omega
        · show max (at_ + max long 0) a ≤ _; omega
    split <;> exact h6
  refine ⟨hs.1, ?_, h.pos, hm, fun s hs2 => ?_⟩
  · have h4 := td_len (cutL nodes (max at_ a) (max (at_ + max long 0) a) (isort le40 (p ++ [⟨max at_ a, evD 0 p (max at_ a)⟩, ⟨max (at_ + max long 0) a, evD 0 p (max (at_ + max long 0) a)⟩]))) none
    rw [cutL_len, isort_len] at h4
    simp only [List.length_append, List.length_cons, List.length_nil] at h4
    have := h.len
    unfold takeP
    omega
  · have h4 := hs.1.read s hs2
    rw [hs.2 s.f0 (hs.1.ge s hs2)] at h4
    unfold cutAt at h4
    obtain ⟨u, hu, hus, _, h5⟩ := evD_of (d := 0) h.cn.asc' (t := s.f0) ⟨⟨a, x⟩, by rw [hp]; simp, hs.1.ge s hs2⟩
    have h6 := h.fr u hu
    rw [h5] at h4
    split at h4 <;> omega

theorem u8_bd (x : Int) (h : (Lit.int .u8 x).wf = true) : 0 ≤ x ∧ x ≤ 255 := by
  simp only [Lit.wf, Bool.and_eq_true, decide_eq_true_eq] at h
  have e1 : IntKind.u8.min = 0 := by decide +kernel
  have e2 : IntKind.u8.max = 255 := by decide +kernel
  omega
theorem tmod_bd (x m : Int) (h : 0 ≤ x) (hm : 0 < m) : 0 ≤ Int.tmod x m ∧ Int.tmod x m < m := by
  rw [Int.tmod_eq_emod_of_nonneg h]
  exact ⟨Int.emod_nonneg _ (by omega), Int.emod_lt_of_pos _ hm⟩

/-! ### what Fit's answer says, tick by tick -/
/-- From tick b on at height x, then r: all of [b, e) has at least so many just where the steps that begin before e have. -/
theorem win_iff (nodes e : Int) : ∀ (r : List S40) (b x : Int), Can b x r → b < e → ((∀ i, b ≤ i → i < e → nodes ≤ evD x r i) ↔ (nodes ≤ x ∧ ∀ s ∈ r, s.f0 < e → nodes ≤ s.f1))
  | [], b, x, _, hbe => by
    constructor
    · intro h; exact ⟨h b (Int.le_refl _) hbe, by simp⟩
    · intro h i _ _; exact h.1
  | s :: r, b, x, hc, hbe => by
    have hfar : ∀ u ∈ r, s.f0 < u.f0 := fun u hu => Can.gt hc.2.2 u hu
    have hpre : ∀ i, b ≤ i → i < s.f0 → evD x (s :: r) i = x := fun i _ h => evD_far _ _ _ (fun u hu => by
      rcases List.mem_cons.1 hu with rfl | hu
      · exact h
      · have := hfar u hu; omega)
    have hpost : ∀ i, s.f0 ≤ i → evD x (s :: r) i = evD s.f1 r i := fun i h => by rw [evD_cons, if_pos h]
    by_cases hse : s.f0 < e
    · have ih := win_iff nodes e r s.f0 s.f1 hc.2.2 hse
      constructor
      · intro h
        have h1 := ih.1 (fun i h2 h3 => by have := h i (by have := hc.1; omega) h3; rwa [hpost i h2] at this)
        refine ⟨?_, fun u hu hue => ?_⟩
        · have := h b (Int.le_refl _) hbe
          rwa [hpre b (Int.le_refl _) hc.1] at this
        · rcases List.mem_cons.1 hu with rfl | hu
          · exact h1.1
          · exact h1.2 u hu hue
      · intro h i h2 h3
        by_cases h4 : i < s.f0
        · rw [hpre i h2 h4]; exact h.1
        · rw [hpost i (by omega)]
          exact ih.2 ⟨h.2 s (by simp) hse, fun u hu hue => h.2 u (by simp [hu]) hue⟩ i (by omega) h3
    · constructor
      · intro h
        refine ⟨?_, fun u hu hue => ?_⟩
        · have := h b (Int.le_refl _) hbe
          rwa [hpre b (Int.le_refl _) hc.1] at this
        · rcases List.mem_cons.1 hu with rfl | hu
          · omega
          · have := hfar u hu; omega
      · intro h i h2 h3
        rw [hpre i h2 (by omega)]; exact h.1
theorem fitsP_iff (nodes long a : Int) : ∀ (l : List S40), l.Pairwise (fun x y => x.f0 < y.f0) → (fitsP nodes long a l = true ↔ ∀ s ∈ l, s.f0 < a + long → nodes ≤ s.f1)
  | [], _ => by simp [fitsP]
  | s :: l, h => by
    have h' := List.pairwise_cons.1 h
    rw [fitsP_cons]
    by_cases h1 : s.f0 - a < long
    · rw [if_pos h1]
      by_cases h2 : s.f1 < nodes
      · rw [if_pos h2]
        constructor
        · intro h3; cases h3
        · intro h3; have := h3 s (by simp) (by omega); omega
      · rw [if_neg h2, fitsP_iff nodes long a l h'.2]
        constructor
        · intro h3 u hu hue
          rcases List.mem_cons.1 hu with rfl | hu
          · omega
          · exact h3 u hu hue
        · intro h3 u hu hue; exact h3 u (by simp [hu]) hue
    · rw [if_neg h1]
      constructor
      · intro _ u hu hue
        rcases List.mem_cons.1 hu with rfl | hu
        · omega
        · have := h'.1 u hu; omega
      · intro _; rfl
/-- So many are free from tick i on, for so long. -/
def Room (p : List S40) (nodes long t : Int) : Prop := ∀ i, t ≤ i → i < t + long → nodes ≤ evD 0 p i
/-- What Fit's answer means, for the part of a profile from (a, x) on. -/
theorem fitP_sem (nodes long : Int) (hl : 0 < long) : ∀ (r : List S40) (a x d : Int), Can a x r →
    ((fitP nodes long (⟨a, x⟩ :: r)).2 = true → a ≤ (fitP nodes long (⟨a, x⟩ :: r)).1 ∧ (∃ s ∈ (⟨a, x⟩ :: r : List S40), s.f0 = (fitP nodes long (⟨a, x⟩ :: r)).1) ∧ (∀ i, (fitP nodes long (⟨a, x⟩ :: r)).1 ≤ i → i < (fitP nodes long (⟨a, x⟩ :: r)).1 + long → nodes ≤ evD d (⟨a, x⟩ :: r) i) ∧ ∀ t, a ≤ t → t < (fitP nodes long (⟨a, x⟩ :: r)).1 → ¬ ∀ i, t ≤ i → i < t + long → nodes ≤ evD d (⟨a, x⟩ :: r) i) ∧
    ((fitP nodes long (⟨a, x⟩ :: r)).2 = false → (fitP nodes long (⟨a, x⟩ :: r)).1 = 0 ∧ ∀ t, a ≤ t → ¬ ∀ i, t ≤ i → i < t + long → nodes ≤ evD d (⟨a, x⟩ :: r) i) := by
  intro r
  induction r with
  | nil =>
    intro a x d _
    have hev : ∀ i, a ≤ i → evD d [(⟨a, x⟩ : S40)] i = x := fun i h => by rw [evD_cons, if_pos h]; rfl
    have hfit : fitsP nodes long a [(⟨a, x⟩ : S40)] = true ↔ nodes ≤ x := by
      rw [fitsP_iff nodes long a _ (by simp)]
      constructor
      · intro h; exact h ⟨a, x⟩ (by simp) (by show a < a + long; omega)
      · intro h s hs _; simp only [List.mem_singleton] at hs; subst hs; exact h
    by_cases h : nodes ≤ x
    · have e : fitP nodes long [(⟨a, x⟩ : S40)] = (a, true) := by unfold fitP; rw [if_pos (hfit.2 h)]
      rw [e]
      exact ⟨fun _ => ⟨Int.le_refl _, ⟨⟨a, x⟩, by simp, rfl⟩, fun i h1 _ => by rw [hev i h1]; exact h, fun t h1 h2 => by have h2' : t < a := h2; omega⟩, fun h1 => by cases h1⟩
    · have e : fitP nodes long [(⟨a, x⟩ : S40)] = (0, false) := by unfold fitP; rw [if_neg (fun h1 => h (hfit.1 h1))]; rfl
      rw [e]
      exact ⟨(fun h1 => by cases h1), fun _ => ⟨rfl, fun t h1 h2 => h (by have := h2 t (Int.le_refl _) (by omega); rwa [hev t h1] at this)⟩⟩
  | cons s r ih =>
    intro a x d hc
    have hs : s = ⟨s.f0, s.f1⟩ := rfl
    have ihs := ih s.f0 s.f1 x hc.2.2
    rw [← hs] at ihs
    have hasc : (⟨a, x⟩ :: s :: r : List S40).Pairwise (fun x y => x.f0 < y.f0) := (Cn.asc (a := a) ⟨x, s :: r, rfl, hc⟩)
    have hwin := win_iff nodes (a + long) (s :: r) a x hc (by omega)
    have hev : ∀ i, a ≤ i → evD d (⟨a, x⟩ :: s :: r) i = evD x (s :: r) i := fun i h => by rw [evD_cons, if_pos (show (⟨a, x⟩ : S40).f0 ≤ i from h)]
    have hevx : ∀ i, a ≤ i → i < s.f0 → evD x (s :: r) i = x := fun i _ h => evD_far _ _ _ (fun u hu => by
      rcases List.mem_cons.1 hu with rfl | hu
      · exact h
      · have := Can.gt hc.2.2 u hu; omega)
    have hfit : fitsP nodes long a (⟨a, x⟩ :: s :: r) = true ↔ ∀ i, a ≤ i → i < a + long → nodes ≤ evD d (⟨a, x⟩ :: s :: r) i := by
      rw [fitsP_iff nodes long a _ hasc]
      constructor
      · intro h i h1 h2
        rw [hev i h1]
        exact hwin.2 ⟨h ⟨a, x⟩ (by simp) (by show a < a + long; omega), fun u hu hue => h u (List.mem_cons_of_mem _ hu) hue⟩ i h1 h2
      · intro h
        have h1 := hwin.1 (fun i h2 h3 => by have := h i h2 h3; rwa [hev i h2] at this)
        intro u hu hue
        rcases List.mem_cons.1 hu with rfl | hu
        · exact h1.1
        · exact h1.2 u hu hue
    by_cases h : fitsP nodes long a (⟨a, x⟩ :: s :: r) = true
    · have e : fitP nodes long (⟨a, x⟩ :: s :: r) = (a, true) := by rw [fitP_cons, if_pos h]
      rw [e]
      exact ⟨fun _ => ⟨Int.le_refl _, ⟨⟨a, x⟩, by simp, rfl⟩, hfit.1 h, fun t h1 h2 => by have h2' : t < a := h2; omega⟩, fun h1 => by cases h1⟩
    · have e : fitP nodes long (⟨a, x⟩ :: s :: r) = fitP nodes long (s :: r) := by rw [fitP_cons, if_neg h]
      rw [e]
      -- nothing fits before s
      have hno : ∀ t, a ≤ t → t < s.f0 → ¬ ∀ i, t ≤ i → i < t + long → nodes ≤ evD d (⟨a, x⟩ :: s :: r) i := fun t h1 h2 h3 => by
        refine h (hfit.2 (fun i h4 h5 => ?_))
        by_cases h6 : t ≤ i
        · exact h3 i h6 (by omega)
        · have h7 := h3 t (Int.le_refl _) (by omega)
          rw [hev t h1, hevx t h1 h2] at h7
          rw [hev i h4, hevx i h4 (by omega)]
          exact h7
      have hge : ∀ t, s.f0 ≤ t → ((∀ i, t ≤ i → i < t + long → nodes ≤ evD d (⟨a, x⟩ :: s :: r) i) ↔ (∀ i, t ≤ i → i < t + long → nodes ≤ evD x (s :: r) i)) := fun t h1 => by
        have h0 := hc.1
        constructor
        · intro h2 i h3 h4; have := h2 i h3 h4; rwa [hev i (by omega)] at this
        · intro h2 i h3 h4; rw [hev i (by omega)]; exact h2 i h3 h4
      refine ⟨fun h1 => ?_, fun h1 => ?_⟩
      · obtain ⟨q1, ⟨u, hu, hue⟩, q2, q3⟩ := ihs.1 h1
        have h0 := hc.1
        refine ⟨by omega, ⟨u, List.mem_cons_of_mem _ hu, hue⟩, (hge _ q1).2 q2, fun t h2 h3 => ?_⟩
        by_cases h4 : t < s.f0
        · exact hno t h2 h4
        · rw [hge t (by omega)]; exact q3 t (by omega) h3
      · obtain ⟨q1, q2⟩ := ihs.2 h1
        refine ⟨q1, fun t h2 => ?_⟩
        by_cases h4 : t < s.f0
        · exact hno t h2 h4
        · rw [hge t (by omega)]; exact q2 t (by omega)
/-- The same of a whole profile. -/
theorem fit_sem {a : Int} {p : List S40} (h : Cn a p) (nodes long : Int) (hl : 0 < long) :
    ((fitP nodes long p).2 = true → a ≤ (fitP nodes long p).1 ∧ (∃ s ∈ p, s.f0 = (fitP nodes long p).1) ∧ Room p nodes long (fitP nodes long p).1 ∧ ∀ t, a ≤ t → t < (fitP nodes long p).1 → ¬ Room p nodes long t) ∧
    ((fitP nodes long p).2 = false → (fitP nodes long p).1 = 0 ∧ ∀ t, a ≤ t → ¬ Room p nodes long t) := by
  obtain ⟨x, r, rfl, hr⟩ := h
  exact fitP_sem nodes long hl r a x 0 hr

/-! ### what runs and what is asked, within what may be -/
def busyE (l : List S38) : List S38 := (busyH l).map fun b => ⟨held b.f0 562949953421312, b.f1⟩
theorem busy17_l0 : ∀ (rest pre : List S38) (i : Int), i = pre.length → (pre ++ rest).length ≤ 1000 → Ev (fun k => prebendref17_Busy.l0 k (pre ++ rest) i) (pre ++ rest.map fun b => ⟨held b.f0 562949953421312, b.f1⟩)
  | [], pre, i, hi, hl => by
    refine Ev.step (f := fun _ => some (pre ++ [])) (fun k => ?_) (Ev.now _)
    rw [prebendref17_Busy.l0, if_neg (by simp; omega)]
  | b :: rest, pre, i, hi, hl => by
    have hlen : ((pre ++ b :: rest).length : Int) = pre.length + rest.length + 1 := by simp; omega
    refine Ev.step (f := fun k => prebendref17_Busy.l0 k ((pre ++ [(⟨held b.f0 562949953421312, b.f1⟩ : S38)]) ++ rest) (i + 1)) (fun k => by
      rw [prebendref17_Busy.l0, if_pos (by omega), if_pos (by omega), rd38_mid pre rest b i hi, held_f, Option.bind_some, st_ pre rest b _ i hi, wrp (i + 1) (by omega) (by omega)]
      simp) ?_
    have := busy17_l0 rest (pre ++ [(⟨held b.f0 562949953421312, b.f1⟩ : S38)]) (i + 1) (by simp; omega) (by simp at hl ⊢; omega)
    simpa using this
theorem busy17_f (l : List S38) : Ev (fun k => prebendref17_Busy.f k l) (busyE l) := by
  refine Ev.bind (busy_f l) ?_
  have := busyH_len l
  exact busy17_l0 (busyH l) [] 0 rfl (by simp; omega)
theorem busyE_ok (l : List S38) : (busyE l).length ≤ 40 ∧ (∀ b ∈ busyE l, 0 ≤ b.f1 ∧ b.f1 ≤ 1048576) ∧ ∀ b ∈ busyE l, 0 ≤ b.f0 ∧ b.f0 ≤ 562949953421312 := by
  refine ⟨by unfold busyE; rw [List.length_map]; exact busyH_len l, fun b hb => ?_, fun b hb => ?_⟩
  · unfold busyE at hb
    obtain ⟨c, hc, rfl⟩ := List.mem_map.1 hb
    exact (busyH_few l).2 c hc
  · unfold busyE at hb
    obtain ⟨c, hc, rfl⟩ := List.mem_map.1 hb
    exact held_bd c.f0 562949953421312 (by omega)
theorem busyE_few (l : List S38) : Few (busyE l) := ⟨by have := (busyE_ok l).1; omega, (busyE_ok l).2.1⟩
theorem rd52_mid (p q : List S52) (x : S52) (i : Int) (hi : i = p.length) : rd_T52 (p ++ x :: q) i = x := gt_ p q x i hi
def askE (q : S52) : S52 := ⟨held q.f0 1048576, held q.f1 562949953421312⟩
def asksE (l : List S52) : List S52 := (l.take 30).map askE
theorem asks_l0 (l : List S52) : ∀ (rest pre : List S52) (i : Int), pre ++ rest = l → i = pre.length → pre.length ≤ 30 → Ev (fun k => prebendref17_Asks.l0 k l (pre.map askE) i) (asksE l)
  | [], pre, i, hpr, hi, hp => by
    have e : pre = l := by simpa using hpr
    subst e
    refine Ev.step (f := fun k => prebendref17_Asks.j1 k pre (pre.map askE) i false) (fun k => by rw [prebendref17_Asks.l0, if_neg (by omega)]) ?_
    refine Ev.step (f := fun _ => some (asksE pre)) (fun k => ?_) (Ev.now _)
    rw [prebendref17_Asks.j1, if_neg (by simp)]
    unfold asksE
    rw [List.take_of_length_le hp]
  | b :: rest, pre, i, hpr, hi, hp => by
    have hpl : (l.length : Int) = pre.length + rest.length + 1 := by rw [← hpr]; simp; omega
    have g : rd_T52 l i = b := by rw [← hpr]; exact rd52_mid pre rest b i hi
    refine Ev.step (f := fun k => prebendref17_Asks.j1 k l (pre.map askE) i (decide (i < 30))) (fun k => by rw [prebendref17_Asks.l0, if_pos (by omega)]) ?_
    by_cases h4 : i < 30
    · rw [decide_eq_true h4]
      refine Ev.step (f := fun k => prebendref17_Asks.l0 k l ((pre ++ [b]).map askE) (i + 1)) (fun k => by
        rw [prebendref17_Asks.j1, if_pos rfl, if_pos (by omega), if_pos (by omega), g, held_f, Option.bind_some, held_f, Option.bind_some, if_pos (by rw [List.length_map]; omega), wrp (i + 1) (by omega) (by omega), List.map_append]
        rfl) ?_
      exact asks_l0 l rest (pre ++ [b]) (i + 1) (by simpa using hpr) (by simp; omega) (by simp; omega)
    · rw [decide_eq_false h4]
      refine Ev.step (f := fun _ => some (asksE l)) (fun k => ?_) (Ev.now _)
      rw [prebendref17_Asks.j1, if_neg (by simp)]
      unfold asksE
      rw [← hpr, List.take_append_of_le_length (by omega), List.take_of_length_le (by omega)]
theorem asks_f (l : List S52) : Ev (fun k => prebendref17_Asks.f k l) (asksE l) := asks_l0 l l [] 0 rfl rfl (by simp)
theorem asksE_ok (l : List S52) : (asksE l).length ≤ 30 ∧ ∀ q ∈ asksE l, 0 ≤ q.f0 ∧ q.f0 ≤ 1048576 ∧ 0 ≤ q.f1 ∧ q.f1 ≤ 562949953421312 := by
  refine ⟨by unfold asksE; rw [List.length_map, List.length_take]; omega, fun q hq => ?_⟩
  unfold asksE at hq
  obtain ⟨c, _, rfl⟩ := List.mem_map.1 hq
  have h1 := held_bd c.f0 1048576 (by omega)
  have h2 := held_bd c.f1 562949953421312 (by omega)
  exact ⟨h1.1, h1.2, h2.1, h2.2⟩
/-- Is one counted among the refused? -/
def refd (ref : List Bool) (n : Int) : Bool := decide (n < (ref.length : Int)) && rdOf false ref n

/-! ### what a profile never exceeds, and ends at -/
structure Inv (a T : Int) (p : List S40) : Prop where
  up : ∀ t, a ≤ t → evD 0 p t ≤ T
  tail : ∃ t0, a ≤ t0 ∧ ∀ t, t0 ≤ t → evD 0 p t = T
theorem bs_zero : ∀ (l : List S38) (t : Int), (∀ b ∈ l, b.f0 ≤ t) → bs l t = 0
  | [], _, _ => rfl
  | b :: l, t, h => by rw [bs_cons, if_neg (by have := h b (by simp); omega), bs_zero l t (fun c hc => h c (by simp [hc]))]; rfl
theorem inv_prof (now T B : Int) (l : List S38) (hn : ∀ b ∈ l, 0 ≤ b.f1 ∧ b.f1 ≤ 1048576) (hb : ∀ b ∈ l, b.f0 ≤ B) (h1 : now ≤ B) : Inv now T (prof now T l) where
  up := fun t ht => by rw [prof_ev now T l t ht]; have := (bs_bound l t hn).1; omega
  tail := ⟨B, h1, fun t ht => by rw [prof_ev now T l t (by omega), bs_zero l t (fun b hb' => by have := hb b hb'; omega)]; omega⟩
theorem inv_take {a T : Int} {p : List S40} (h : Inv a T p) (ho : Ok a p) (at_ long nodes : Int) (h2 : 0 ≤ nodes) : Inv a T (takeP a p at_ long nodes) := by
  obtain ⟨t0, h3, h4⟩ := h.tail
  have hs := (takeP_spec ho at_ long nodes).2
  refine ⟨fun t ht => ?_, ⟨max t0 (at_ + max long 0), by omega, fun t ht => ?_⟩⟩
  · rw [hs t ht]; unfold cutAt; have := h.up t ht; split <;> omega
  · rw [hs t (by omega)]; unfold cutAt; rw [if_neg (by omega), h4 t (by omega)]; omega
theorem fit_ok {a T : Int} {p : List S40} (hc : Cn a p) (h : Inv a T p) (nodes long : Int) (hl : 0 < long) : (fitP nodes long p).2 = decide (nodes ≤ T) := by
  have hs := fit_sem hc nodes long hl
  obtain ⟨t0, h3, h4⟩ := h.tail
  cases h1 : (fitP nodes long p).2 with
  | true =>
    obtain ⟨q1, _, q2, _⟩ := hs.1 h1
    have h5 := q2 _ (Int.le_refl _) (by omega)
    have h6 := h.up _ q1
    exact (decide_eq_true (by omega)).symm
  | false =>
    have h5 := (hs.2 h1).2 t0 h3
    exact (decide_eq_false (fun h6 => h5 (fun i h7 _ => by rw [h4 i h7]; exact h6))).symm

/-! ### the first tick at which so much is free, and who may start now -/
def shad (now T nodes : Int) (L : List S38) : Int × Int × Bool :=
  if (fitP nodes 1 (prof now T L)).2 = true then ((fitP nodes 1 (prof now T L)).1, T - bs L (fitP nodes 1 (prof now T L)).1 - nodes, true) else (0, 0, false)
structure Small (now T : Int) (L : List S38) : Prop where
  now0 : 0 ≤ now
  now1 : now ≤ 562949953421312
  t0 : 0 ≤ T
  t1 : T ≤ 1048576
  len : L.length ≤ 40
  hn : ∀ b ∈ L, 0 ≤ b.f1 ∧ b.f1 ≤ 1048576
  hb : ∀ b ∈ L, 0 ≤ b.f0 ∧ b.f0 ≤ 562949953421312
theorem shad_bd {now T : Int} {L : List S38} (h : Small now T L) (nodes : Int) : 0 ≤ (shad now T nodes L).1 ∧ (shad now T nodes L).1 ≤ 1125899906842624 := by
  unfold shad
  cases hv : (fitP nodes 1 (prof now T L)).2 with
  | false => simp
  | true =>
    obtain ⟨q1, ⟨s, hs, hsa⟩, _⟩ := (fit_sem (prof_cn now T L) nodes 1 (by omega)).1 hv
    have hk := prof_ok now T L h.now0 (by have := h.now1; omega) h.t0 h.t1 (by have := h.len; omega) h.hn (fun b hb => by have := (h.hb b hb).2; omega)
    have := hk.at_ s hs
    have := h.now0
    rw [if_pos rfl]
    dsimp only
    omega
theorem shadow_f {now T : Int} {L : List S38} (h : Small now T L) (nodes : Int) (hn : 0 ≤ nodes ∧ nodes ≤ 1048576) : Ev (fun k => easy_Shadow.f k now T L nodes) (shad now T nodes L) := by
  have hlen := h.len
  have ht0 := h.t0
  have ht1 := h.t1
  have hk := prof_ok now T L h.now0 (by have := h.now1; omega) ht0 ht1 (by omega) h.hn (fun b hb => by have := (h.hb b hb).2; omega)
  have hP := new_f now T L ⟨by omega, h.hn⟩ (by omega) (by omega)
  have hpl := prof_len now T L
  have hk' := hk.ok (by omega)
  have hF := fit_f (p := prof now T L) (by omega) hk'.cn.asc (fun s hs => ⟨by have := hk'.cn.ge s hs; have := h.now0; omega, by have := hk.at_ s hs; omega⟩) nodes 1
  rw [show max (1 : Int) 1 = 1 from rfl] at hF
  unfold easy_Shadow.f shad
  refine Ev.bind hP (Ev.bind hF ?_)
  cases hv : (fitP nodes 1 (prof now T L)).2 with
  | false => simp only [Bool.false_eq_true, if_false]; exact Ev.now _
  | true =>
    simp only [if_true]
    obtain ⟨q1, _⟩ := (fit_sem (prof_cn now T L) nodes 1 (by omega)).1 hv
    obtain ⟨a, ha⟩ : ∃ a, (fitP nodes 1 (prof now T L)).1 = a := ⟨_, rfl⟩
    rw [ha] at q1 ⊢
    have hA := at_f (prof now T L) a (by omega)
    rw [prof_ev now T L a q1] at hA
    have hbd := bs_bound L a h.hn
    refine Ev.bind hA ?_
    rw [wrp _ (by omega) (by omega)]
    exact Ev.now _
/-! ### who may start -/
def cnt (T : Int) (ref : List Bool) (i : Int) (x : S52) : Bool := !refd ref i && decide (x.f0 ≤ T)
/-- Behind the first: at_ and extra are what the first leaves. -/
def nextB (now T F : Int) (ref : List Bool) (at_ extra : Int) : Int → List S52 → Int × Bool
  | _, [] => (0, false)
  | i, q :: r => if cnt T ref i q = true then (if q.f0 ≤ F then (if q.f1 ≤ at_ - now then (i, true) else if q.f0 ≤ extra then (i, true) else nextB now T F ref at_ extra (i + 1) r) else nextB now T F ref at_ extra (i + 1) r) else nextB now T F ref at_ extra (i + 1) r
def nextA (now T F : Int) (L : List S38) (ref : List Bool) : Int → List S52 → Int × Bool
  | _, [] => (0, false)
  | i, q :: r => if cnt T ref i q = true then (if q.f0 ≤ F then (i, true) else nextB now T F ref (shad now T q.f0 L).1 (shad now T q.f0 L).2.1 (i + 1) r) else nextA now T F L ref (i + 1) r
theorem ecounts_f (T : Int) (q : List S52) (ref : List Bool) (i : Int) (x : S52) (pre post : List S52) (hq : q = pre ++ x :: post) (hi : i = pre.length) : easy_counts.f i T q ref = some (cnt T ref i x) := by
  have hql : (q.length : Int) = pre.length + post.length + 1 := by rw [hq]; simp; omega
  have g : rd_T52 q i = x := by rw [hq]; exact rd52_mid pre post x i hi
  unfold easy_counts.f cnt refd
  rw [g, if_pos (by omega), if_pos (by omega)]
  by_cases h0 : x.f0 ≤ T
  · rw [if_pos h0, decide_eq_true h0]
    by_cases h1 : i ≥ (ref.length : Int)
    · rw [if_pos h1, decide_eq_false (by omega)]; simp
    · rw [if_neg h1, if_pos (by omega), decide_eq_true (by omega)]; simp
  · rw [if_neg h0, decide_eq_false h0]; simp
structure Asked (Q : List S52) : Prop where
  len : Q.length ≤ 30
  ok : ∀ q ∈ Q, 0 ≤ q.f0 ∧ q.f0 ≤ 1048576 ∧ 0 ≤ q.f1 ∧ q.f1 ≤ 562949953421312
theorem enext_l1 {now T : Int} {Q : List S52} (hQ : Asked Q) (h0 : 0 ≤ now) (h1 : now ≤ 562949953421312) (F : Int) (ref : List Bool) (at_ extra : Int) (ha : 0 ≤ at_) (ha2 : at_ ≤ 1125899906842624) : ∀ (rest pre : List S52) (i : Int), pre ++ rest = Q → i = pre.length → Ev (fun k => easy_Next.l1 k now T Q ref F at_ extra i) (nextB now T F ref at_ extra i rest)
  | [], pre, i, hpr, hi => by
    have hpl : Q.length = pre.length := by rw [← hpr]; simp
    exact Ev.step (f := fun _ => some (0, false)) (fun k => by rw [easy_Next.l1, if_neg (by omega)]) (Ev.now _)
  | x :: rest, pre, i, hpr, hi => by
    have hlen := hQ.len
    have hpl : (Q.length : Int) = pre.length + rest.length + 1 := by rw [← hpr]; simp; omega
    have g : rd_T52 Q i = x := by rw [← hpr]; exact rd52_mid pre rest x i hi
    have ih := enext_l1 (T := T) hQ h0 h1 F ref at_ extra ha ha2 rest (pre ++ [x]) (i + 1) (by simpa using hpr) (by simp; omega)
    refine Ev.step (f := fun k => if cnt T ref i x = true then (if x.f0 ≤ F then (if x.f1 ≤ at_ - now then some (i, true) else if x.f0 ≤ extra then some (i, true) else easy_Next.l1 k now T Q ref F at_ extra (i + 1)) else easy_Next.l1 k now T Q ref F at_ extra (i + 1)) else easy_Next.l1 k now T Q ref F at_ extra (i + 1)) (fun k => by
      rw [easy_Next.l1, if_pos (by omega), if_pos (by omega), ecounts_f T Q ref i x pre rest hpr.symm hi, Option.bind_some, g, wrp (at_ - now) (by omega) (by omega), wrp (i + 1) (by omega) (by omega)]) ?_
    unfold nextB
    by_cases c1 : cnt T ref i x = true
    · simp only [if_pos c1]
      by_cases c2 : x.f0 ≤ F
      · simp only [if_pos c2]
        by_cases c3 : x.f1 ≤ at_ - now
        · simp only [if_pos c3]; exact Ev.now _
        · simp only [if_neg c3]
          by_cases c4 : x.f0 ≤ extra
          · simp only [if_pos c4]; exact Ev.now _
          · simp only [if_neg c4]; exact ih
      · simp only [if_neg c2]; exact ih
    · simp only [if_neg c1]; exact ih
theorem enext_l0 {now T : Int} {L : List S38} (h : Small now T L) {Q : List S52} (hQ : Asked Q) (F : Int) (ref : List Bool) : ∀ (rest pre : List S52) (i : Int), pre ++ rest = Q → i = pre.length → Ev (fun k => easy_Next.l0 k now T L Q ref F i) (nextA now T F L ref i rest)
  | [], pre, i, hpr, hi => by
    have hpl : Q.length = pre.length := by rw [← hpr]; simp
    refine Ev.step (f := fun k => easy_Next.j1 k now T L Q ref F i) (fun k => by rw [easy_Next.l0, if_neg (by omega)]) ?_
    exact Ev.step (f := fun _ => some (0, false)) (fun k => by rw [easy_Next.j1, if_pos (by omega)]) (Ev.now _)
  | x :: rest, pre, i, hpr, hi => by
    have hlen := hQ.len
    have hpl : (Q.length : Int) = pre.length + rest.length + 1 := by rw [← hpr]; simp; omega
    have g : rd_T52 Q i = x := by rw [← hpr]; exact rd52_mid pre rest x i hi
    have hx := hQ.ok x (by rw [← hpr]; simp)
    refine Ev.step (f := fun k => if cnt T ref i x = true then easy_Next.j1 k now T L Q ref F i else easy_Next.l0 k now T L Q ref F (i + 1)) (fun k => by
      rw [easy_Next.l0, if_pos (by omega), ecounts_f T Q ref i x pre rest hpr.symm hi, Option.bind_some, wrp (i + 1) (by omega) (by omega)]) ?_
    unfold nextA
    by_cases c1 : cnt T ref i x = true
    · simp only [if_pos c1]
      by_cases c2 : x.f0 ≤ F
      · simp only [if_pos c2]
        exact Ev.step (f := fun _ => some (i, true)) (fun k => by rw [easy_Next.j1, if_neg (by omega), if_pos (by omega), if_pos (by omega), g, if_pos c2]) (Ev.now _)
      · simp only [if_neg c2]
        have hb := shad_bd h x.f0
        refine Ev.step (f := fun k => (easy_Shadow.f k now T L x.f0).bind fun b => easy_Next.l1 k now T Q ref F b.1 b.2.1 (i + 1)) (fun k => by
          rw [easy_Next.j1, if_neg (by omega), if_pos (by omega), if_pos (by omega), g, if_neg c2, wrp (i + 1) (by omega) (by omega)]) (Ev.bind (shadow_f h x.f0 ⟨hx.1, hx.2.1⟩) ?_)
        exact enext_l1 hQ h.now0 h.now1 F ref _ _ hb.1 hb.2 rest (pre ++ [x]) (i + 1) (by simpa using hpr) (by simp; omega)
    · simp only [if_neg c1]
      exact enext_l0 h hQ F ref rest (pre ++ [x]) (i + 1) (by simpa using hpr) (by simp; omega)
theorem enext_f {now T : Int} {L : List S38} (h : Small now T L) {Q : List S52} (hQ : Asked Q) (ref : List Bool) : Ev (fun k => easy_Next.f k now T L Q ref) (nextA now T (T - bs L now) L ref 0 Q) := by
  have hlen := h.len
  have ht0 := h.t0
  have ht1 := h.t1
  have hpl := prof_len now T L
  have hA := at_f (prof now T L) now (by omega)
  rw [prof_ev now T L now (Int.le_refl _)] at hA
  unfold easy_Next.f
  exact Ev.bind (new_f now T L ⟨by omega, h.hn⟩ (by omega) (by omega)) (Ev.bind hA (enext_l0 h hQ _ ref Q [] 0 rfl rfl))

theorem awake_up : ∀ j, prebendlaw17_awake.f (100 + j) = some true := by
  intro j
  induction j with
  | zero => decide +kernel
  | succ j ih => exact prebendlaw17_awake.mono (100 + j) _ ih
theorem awake17 : Ev (fun k => prebendlaw17_awake.f k) true := ⟨100, fun k h => by
  obtain ⟨j, rfl⟩ : ∃ j, k = 100 + j := ⟨k - 100, by omega⟩
  exact awake_up j⟩

/-- The number in the whole queue of one that has a number in the queue without the k-th. -/
def sh (k : Int) (r : Int × Bool) : Int × Bool := (if k ≤ r.1 then (if r.2 = true then r.1 + 1 else r.1) else r.1, r.2)
theorem sh_none (k : Int) : sh k (0, false) = (0, false) := by unfold sh; split <;> rfl
theorem sh_up (k i : Int) (h : k ≤ i) : sh k (i, true) = (i + 1, true) := by unfold sh; simp [h]
theorem sh_low (k i : Int) (h : i < k) : sh k (i, true) = (i, true) := by unfold sh; rw [if_neg (by dsimp only; omega)]
/-- The row that refuses the k-th alone. -/
structure One (ref : List Bool) (k : Int) : Prop where
  at_ : refd ref k = true
  no : ∀ i, 0 ≤ i → i ≠ k → refd ref i = false
theorem one_set (n : Nat) (k : Int) (h0 : 0 ≤ k) (h1 : k < n) : One ((List.replicate n false).set k.toNat true) k where
  at_ := by
    unfold refd rdOf
    rw [List.length_set, List.length_replicate, decide_eq_true h1, Bool.true_and, List.getD_eq_getElem?_getD, List.getElem?_set_self (by rw [List.length_replicate]; omega)]
    rfl
  no := fun i hi hne => by
    unfold refd rdOf
    rw [List.length_set, List.length_replicate]
    by_cases h : i < (n : Int)
    · rw [decide_eq_true h, Bool.true_and, List.getD_eq_getElem?_getD, List.getElem?_set_ne (by omega), List.getElem?_replicate]
      split <;> rfl
    · rw [decide_eq_false h, Bool.false_and]
theorem cnt_nil (T i : Int) (x : S52) : cnt T [] i x = decide (x.f0 ≤ T) := by unfold cnt refd rdOf; simp
theorem cnt_no {ref : List Bool} {k : Int} (h : One ref k) (T i : Int) (x : S52) (h0 : 0 ≤ i) (hne : i ≠ k) : cnt T ref i x = decide (x.f0 ≤ T) := by unfold cnt; rw [h.no i h0 hne]; simp
theorem cnt_at {ref : List Bool} {k : Int} (h : One ref k) (T : Int) (x : S52) : cnt T ref k x = false := by unfold cnt; rw [h.at_]; rfl
theorem nextB_post {ref : List Bool} {k : Int} (h : One ref k) (hk : 0 ≤ k) (now T F a e : Int) : ∀ (l : List S52) (i : Int), k ≤ i → nextB now T F ref a e (i + 1) l = sh k (nextB now T F [] a e i l)
  | [], i, hi => by unfold nextB; rw [sh_none]
  | q :: l, i, hi => by
    have ih := nextB_post h hk now T F a e l (i + 1) (by omega)
    unfold nextB
    rw [cnt_no h T (i + 1) q (by omega) (by omega), cnt_nil, ih]
    split
    · split
      · split
        · rw [sh_up k i hi]
        · split
          · rw [sh_up k i hi]
          · rfl
      · rfl
    · rfl
theorem nextB_pre {ref : List Bool} {k : Int} (h : One ref k) (hk : 0 ≤ k) (now T F a e : Int) (x : S52) (post : List S52) : ∀ (pre : List S52) (i : Int), 0 ≤ i → i + pre.length = k → nextB now T F ref a e i (pre ++ x :: post) = sh k (nextB now T F [] a e i (pre ++ post))
  | [], i, h0, hi => by
    have e : i = k := by simpa using hi
    subst e
    rw [List.nil_append, List.nil_append, nextB, cnt_at h, if_neg (by simp)]
    exact nextB_post h hk now T F a e post i (Int.le_refl _)
  | q :: pre, i, h0, hi => by
    rw [List.length_cons] at hi
    have ih := nextB_pre h hk now T F a e x post pre (i + 1) (by omega) (by omega)
    rw [List.cons_append, List.cons_append]
    unfold nextB
    rw [cnt_no h T i q h0 (by omega), cnt_nil, ih]
    split
    · split
      · split
        · rw [sh_low k i (by omega)]
        · split
          · rw [sh_low k i (by omega)]
          · rfl
      · rfl
    · rfl
theorem nextA_post {ref : List Bool} {k : Int} (h : One ref k) (hk : 0 ≤ k) (now T F : Int) (L : List S38) : ∀ (l : List S52) (i : Int), k ≤ i → nextA now T F L ref (i + 1) l = sh k (nextA now T F L [] i l)
  | [], i, hi => by unfold nextA; rw [sh_none]
  | q :: l, i, hi => by
    have ih := nextA_post h hk now T F L l (i + 1) (by omega)
    unfold nextA
    rw [cnt_no h T (i + 1) q (by omega) (by omega), cnt_nil, ih, nextB_post h hk now T F _ _ l (i + 1) (by omega)]
    split
    · split
      · rw [sh_up k i hi]
      · rfl
    · rfl
theorem nextA_pre {ref : List Bool} {k : Int} (h : One ref k) (hk : 0 ≤ k) (now T F : Int) (L : List S38) (x : S52) (post : List S52) : ∀ (pre : List S52) (i : Int), 0 ≤ i → i + pre.length = k → nextA now T F L ref i (pre ++ x :: post) = sh k (nextA now T F L [] i (pre ++ post))
  | [], i, h0, hi => by
    have e : i = k := by simpa using hi
    subst e
    rw [List.nil_append, List.nil_append, nextA, cnt_at h, if_neg (by simp)]
    exact nextA_post h hk now T F L post i (Int.le_refl _)
  | q :: pre, i, h0, hi => by
    rw [List.length_cons] at hi
    have ih := nextA_pre h hk now T F L x post pre (i + 1) (by omega) (by omega)
    rw [List.cons_append, List.cons_append]
    unfold nextA
    rw [cnt_no h T i q h0 (by omega), cnt_nil, ih, nextB_pre h hk now T F _ _ x post pre (i + 1) (by omega) (by omega)]
    split
    · split
      · rw [sh_low k i (by omega)]
      · rfl
    · rfl
theorem nextB_le (now T F : Int) (ref : List Bool) (a e : Int) : ∀ (l : List S52) (i : Int), 0 ≤ i → 0 ≤ (nextB now T F ref a e i l).1 ∧ (nextB now T F ref a e i l).1 ≤ i + l.length
  | [], i, h => by unfold nextB; simp; omega
  | q :: l, i, h => by
    have ih := nextB_le now T F ref a e l (i + 1) (by omega)
    unfold nextB
    rw [List.length_cons]
    split
    · split
      · split
        · dsimp only; omega
        · split
          · dsimp only; omega
          · omega
      · omega
    · omega
theorem nextA_le (now T F : Int) (L : List S38) (ref : List Bool) : ∀ (l : List S52) (i : Int), 0 ≤ i → 0 ≤ (nextA now T F L ref i l).1 ∧ (nextA now T F L ref i l).1 ≤ i + l.length
  | [], i, h => by unfold nextA; simp; omega
  | q :: l, i, h => by
    have ih := nextA_le now T F L ref l (i + 1) (by omega)
    have ih2 := nextB_le now T F ref (shad now T q.f0 L).1 (shad now T q.f0 L).2.1 l (i + 1) (by omega)
    unfold nextA
    rw [List.length_cons]
    split
    · split
      · dsimp only; omega
      · omega
    · omega
theorem EasyRefused : prebendlaw17_EasyRefused.Pure := by
  intro a0 l1 l2 a3 h0 _ _ h3
  have hu := u8_bd a0 h0
  have hu3 := u8_bd a3 h3
  have ht := tmod_bd a0 40 hu.1 (by omega)
  have hb := busyE_ok l1
  have hq := asksE_ok l2
  have hw : wrap64 (Int.tmod a0 40) = Int.tmod a0 40 := wrp _ (by omega) (by omega)
  obtain ⟨T, hT⟩ : ∃ T, Int.tmod a0 40 = T := ⟨_, rfl⟩
  rw [hT] at ht hw
  have hS : Small 0 T (busyE l1) := ⟨by omega, by omega, ht.1, by omega, hb.1, hb.2.1, hb.2.2⟩
  have hA : Asked (asksE l2) := ⟨hq.1, hq.2⟩
  have Q0 := busy17_f l1
  have Q1 := asks_f l2
  obtain ⟨R, hR⟩ : ∃ R, busyE l1 = R := ⟨_, rfl⟩
  obtain ⟨Q, hQ⟩ : ∃ Q, asksE l2 = Q := ⟨_, rfl⟩
  rw [hR] at hS Q0
  rw [hQ] at hA Q1
  have hlen := hA.len
  have h : Ev (fun k => prebendlaw17_EasyRefused.f k a0 l1 l2 a3) true := by
    unfold prebendlaw17_EasyRefused.f
    rw [hT, hw, wrp a3 (by omega) (by omega)]
    refine Ev.bind Q0 (Ev.bind Q1 ?_)
    by_cases hz : (Q.length : Int) = 0
    · simp only [if_pos hz]
      exact Ev.bind awake17 (Ev.now _)
    · have hk := tmod_bd a3 (Q.length : Int) hu3.1 (by omega)
      obtain ⟨k, hkk⟩ : ∃ k, Int.tmod a3 (Q.length : Int) = k := ⟨_, rfl⟩
      rw [hkk] at hk
      obtain ⟨pre, x, post, hQs, hkp⟩ : ∃ pre x post, Q = pre ++ x :: post ∧ k.toNat = pre.length := ⟨Q.take k.toNat, Q[k.toNat]'(by omega), Q.drop (k.toNat + 1), by rw [List.getElem_cons_drop, List.take_append_drop], by rw [List.length_take]; omega⟩
      have hone := one_set Q.length k hk.1 hk.2
      have e1 : Q.take k.toNat = pre := by rw [hQs, hkp]; simp
      have e2 : Q.drop (k + 1).toNat = post := by rw [show (k + 1).toNat = pre.length + 1 by omega, hQs, List.drop_append]; simp
      have hql : (Q.length : Int) = pre.length + post.length + 1 := by rw [hQs]; simp; omega
      have hA2 : Asked (pre ++ post) := ⟨by rw [List.length_append]; omega, fun q hq => hA.ok q (by rw [hQs]; rcases List.mem_append.1 hq with h | h <;> simp [h])⟩
      have N1 := enext_f hS hA ((List.replicate Q.length false).set k.toNat true)
      have N2 := enext_f hS hA2 []
      have hsh := nextA_pre hone hk.1 0 T (T - bs R 0) R x post pre 0 (by omega) (by omega)
      rw [← hQs] at hsh
      have hle := nextA_le 0 T (T - bs R 0) R [] (pre ++ post) 0 (by omega)
      rw [List.length_append] at hle
      rw [hsh] at N1
      obtain ⟨r, hr⟩ : ∃ r, nextA 0 T (T - bs R 0) R [] 0 (pre ++ post) = r := ⟨_, rfl⟩
      rw [hr] at N1 N2 hle
      have N1' : Ev (fun n => easy_Next.f n 0 T R Q ((List.replicate ((Q.length : Int)).toNat false).set k.toNat true)) (sh k r) := by rw [Int.toNat_natCast]; exact N1
      simp only [if_neg hz, hkk, wrp (k + 1) (by omega) (by omega), Option.bind_some, if_pos (show (0 : Int) ≤ (Q.length : Int) by omega), if_pos (show ((Q.length : Int)).toNat ≤ 281474976710656 by omega), if_pos hk.1, List.length_replicate, if_pos (show k < (((Q.length : Int)).toNat : Int) by omega)]
      refine Ev.bind N1' ?_
      simp only [if_pos (show k ≤ (Q.length : Int) by omega), e1, e2, List.nil_append, if_pos (show (0 : Int) ≤ k + 1 by omega), if_pos (show k + 1 ≤ (Q.length : Int) by omega), if_pos (show ([] : List S52).length + pre.length < 8796093022208 by simp; omega), if_pos (show pre.length + post.length < 8796093022208 by omega)]
      refine Ev.bind N2 ?_
      obtain ⟨m, b⟩ := r
      dsimp only at hle
      by_cases c1 : m ≥ k
      · simp only [if_pos c1]
        cases b with
        | true =>
          simp only [if_true]
          refine Ev.bind awake17 ?_
          rw [sh_up k m c1]
          simp only [if_true, beq_self_eq_true, wrp (m + 1) (by omega) (by omega)]
          rw [show (m + 1 != k) = true from bne_iff_ne.mpr (by omega)]
          exact Ev.now _
        | false =>
          simp only [Bool.false_eq_true, if_false]
          refine Ev.bind awake17 ?_
          have e3 : sh k (m, false) = (m, false) := by unfold sh; simp
          rw [e3]
          simp only [if_true, beq_self_eq_true, Bool.false_eq_true, if_false]
          exact Ev.now _
      · simp only [if_neg c1]
        refine Ev.bind awake17 ?_
        have e3 : sh k (m, b) = (m, b) := by unfold sh; rw [if_neg (by dsimp only; omega)]
        rw [e3]
        cases b with
        | true =>
          simp only [if_true, beq_self_eq_true]
          rw [show (m != k) = true from bne_iff_ne.mpr (by omega)]
          exact Ev.now _
        | false =>
          simp only [if_true, beq_self_eq_true, Bool.false_eq_true, if_false]
          exact Ev.now _
  exact h.rounds

end Go.Proofs.Ytedpoahndddgfaa.Pure
end
section
namespace Go.Proofs.Ytedpoahndddgfaa.Rd
open Go.ChangeShapes Go.WideShapes Go.Deep Go.RowKit Go.Proofs.YtedpoahndddgfaaW.PrintWords
set_option linter.unusedVariables false
/-- Cells that are read as a value of type T stand for a plain value x of kind d, of which 'good' holds. -/
def Rds {α : Type} (P : Program) (d : Kd α) (T : TypeId) (good : α → Prop) : Prop :=
  ∀ (H : Type) (enc : TypeId × Value → H) (w : World) (base : Nat) (spare : Nat → Bool) (held : Bool) (n : Nat) (cs : List Value) (y : DataW H × List MemPlace),
    DataW.trod enc P w base spare held n T cs = some y → ∃ x, d.K w x cs ∧ good x
theorem rds_int {P : Program} {T : TypeId} {k : IntKind} (ht : P.underlying T = some (.int k)) : Rds P (Kd.int k) T (fun x => (Lit.int k x).wf = true) := by
  intro H enc w base spare held n cs y h
  obtain ⟨m, rfl, _, hw⟩ := DataW.trod_int ht h
  exact ⟨m, rfl, hw⟩
theorem rds_bool {P : Program} {T : TypeId} (ht : P.underlying T = some .bool) : Rds P Kd.bool T (fun _ => True) := by
  intro H enc w base spare held n cs y h
  obtain ⟨m, rfl, _⟩ := DataW.trod_bool ht h
  exact ⟨m, rfl, trivial⟩
theorem rds_string {P : Program} {T : TypeId} (ht : P.underlying T = some .string) : Rds P Kd.string T (fun s => s.size ≤ maxLen) := by
  intro H enc w base spare held n cs y h
  obtain ⟨m, rfl, _, hw⟩ := DataW.trod_string ht h
  exact ⟨m, rfl, hw⟩
theorem rds_slice {α : Type} {P : Program} {d : Kd α} {T e : TypeId} {good : α → Prop} (ht : P.underlying T = some (.slice e)) (hc : P.cellsOf e = d.sz) (hr : Rds P d e good) :
    Rds P (Kd.slice e d) T (fun xs => xs.length ≤ maxLen ∧ ∀ x ∈ xs, good x) := by
  intro H enc w base spare held n cs y h
  rcases open_slice ht h with ⟨rfl, _⟩ | ⟨a, len, cap, m, n', D, Pl, rfl, hb, hl, hm, hmm, _, hi⟩
  · exact ⟨[], ⟨none, 0, rfl, Nat.le_refl _, rfl, by simp, fun h0 => absurd h0 (by simp)⟩, by simp, by simp⟩
  · have hlm : len ≤ m := by rw [hmm]; split <;> omega
    have step : ∀ l, l ≤ len → ∃ xs : List α, xs.length = l ∧ (∀ x ∈ xs, good x) ∧ ∀ j p, xs[j]? = some p → ∃ c, w.cells? base (a.add (j * d.sz)) d.sz = some c ∧ d.K w p c := by
      intro l
      induction l with
      | zero => intro _; exact ⟨[], rfl, by simp, by simp⟩
      | succ l ih =>
        intro hl1
        obtain ⟨xs, hx, hg, hj⟩ := ih (by omega)
        obtain ⟨c, h1, h2⟩ := hi l (by omega)
        obtain ⟨x, k, g⟩ := hr _ _ _ _ _ _ _ _ _ h2
        rw [hc] at h1
        refine ⟨xs ++ [x], by simp [hx], ?_, ?_⟩
        · intro z hz
          rcases List.mem_append.1 hz with hz | hz
          · exact hg z hz
          · rw [List.mem_singleton.1 hz]; exact g
        · intro j p hp
          rcases Nat.lt_or_ge j xs.length with hlt | hge
          · rw [List.getElem?_append_left hlt] at hp; exact hj j p hp
          · have hjl : j = l := by
              have := (List.getElem?_eq_some_iff.1 hp).1
              rw [List.length_append, List.length_singleton] at this
              omega
            subst hjl
            rw [List.getElem?_append_right hge, hx, Nat.sub_self] at hp
            simp at hp
            subst hp
            exact ⟨c, h1, k⟩
    obtain ⟨xs, hx, hg, hj⟩ := step len (Nat.le_refl _)
    refine ⟨xs, ⟨some a, cap, by rw [hx], by omega, rfl, by rw [hx]; unfold maxLen at hm; omega, fun _ => ⟨a, rfl, fun j p hp => ?_⟩⟩, by rw [hx]; omega, hg⟩
    obtain ⟨c, h1, k⟩ := hj j p hp
    refine ⟨c, d.K_len k, k, fun i u hu => ?_⟩
    obtain ⟨_, hcl, hat⟩ := World.cells?_some h1
    have hil : i < d.sz := by have := (List.getElem?_eq_some_iff.1 hu).1; omega
    rw [← Go.Deep.add_add, hat i hil, hu]
/-- Two kinds in line. -/
theorem pair_mk {α β : Type} {a : Kd α} {b : Kd β} {w : World} {x : α} {y : β} {cs : List Value} {o : Nat} (h1 : a.K w x ((cs.drop o).take a.sz)) (h2 : b.K w y (cs.drop (o + a.sz))) : (Kd.pair a b).K w (x, y) (cs.drop o) :=
  ⟨_, _, by rw [← List.drop_drop]; exact (List.take_append_drop a.sz (cs.drop o)).symm, h1, h2⟩
theorem last_mk {α : Type} {a : Kd α} {w : World} {x : α} {cs : List Value} {o : Nat} (hl : cs.length = o + a.sz) (h1 : a.K w x ((cs.drop o).take a.sz)) : a.K w x (cs.drop o) := by
  rwa [List.take_of_length_le (by rw [List.length_drop]; omega)] at h1
/-- A struct's field. -/
theorem field {H : Type} {enc : TypeId × Value → H} {P : Program} {w : World} {base : Nat} {spare : Nat → Bool} {held : Bool} {n : Nat} {cs : List Value} {fs : Array Field} {xs : List (DataW H × List MemPlace)} (hx : xs.length = fs.size)
    (hf : ∀ (i : Nat) (f : Field), fs[i]? = some f → DataW.trod enc P w base spare held n f.type ((cs.drop f.offset).take (P.cellsOf f.type)) = xs[i]?)
    (i : Nat) (f : Field) (hi : fs[i]? = some f) {α : Type} {d : Kd α} {good : α → Prop} {o T : Nat} (ho : f.offset = o) (hT : f.type = T) (hc : P.cellsOf T = d.sz) (hr : Rds P d T good) : ∃ x, d.K w x ((cs.drop o).take d.sz) ∧ good x := by
  have h := hf i f hi
  have hlt : i < xs.length := by rw [hx]; exact (Array.getElem?_eq_some_iff.1 hi).1
  rw [List.getElem?_eq_getElem hlt, ho, hT, hc] at h
  exact hr _ _ _ _ _ _ _ _ _ h
end Go.Proofs.Ytedpoahndddgfaa.Rd
end
section
namespace Go.Proofs.Ytedpoahndddgfaa.easyRefused
open Go.ChangeShapes Go.WideShapes Go.ChangeAt Go.RowKit Go.Proofs.YtedpoahndddgfaaW.PrintWords Go.Proofs.Ytedpoahndddgfaa.PAll
open Go.ChangeMaps (open_string shut_string)
set_option linter.unusedVariables false
theorem own : ownKnob Try.prog.godebug = none := by kernel_rfl
theorem laidOut : laidOutB Try.prog = true := by kernel_rfl
theorem rds38 : Rd.Rds Try.prog k38 38 g38 := by
  intro H enc w base spare held n cs y h
  obtain ⟨xs, m, _, _, hlen, hxl, hf⟩ := DataW.trod_struct Try.underlying38 h
  have hl : cs.length = 2 := hlen.trans (by kernel_rfl)
  obtain ⟨x0, h0, g0_⟩ := Rd.field hxl hf 0 _ rfl (d := (Kd.int .i64)) (good := (fun x => (Lit.int .i64 x).wf = true)) (o := 0) (T := 3) rfl rfl (by kernel_rfl) (Rd.rds_int Try.underlying3)
  obtain ⟨x1, h1, g1_⟩ := Rd.field hxl hf 1 _ rfl (d := (Kd.int .i64)) (good := (fun x => (Lit.int .i64 x).wf = true)) (o := 1) (T := 3) rfl rfl (by kernel_rfl) (Rd.rds_int Try.underlying3)
  have hK := (Rd.pair_mk (o := 0) h0 (Rd.last_mk (a := (Kd.int .i64)) (o := 1) hl h1))
  exact ⟨⟨x0, x1⟩, (by rw [List.drop_zero] at hK; exact hK), ⟨g0_, g1_⟩⟩
theorem rds52 : Rd.Rds Try.prog k52 52 g52 := by
  intro H enc w base spare held n cs y h
  obtain ⟨xs, m, _, _, hlen, hxl, hf⟩ := DataW.trod_struct Try.underlying52 h
  have hl : cs.length = 2 := hlen.trans (by kernel_rfl)
  obtain ⟨x0, h0, g0_⟩ := Rd.field hxl hf 0 _ rfl (d := (Kd.int .i64)) (good := (fun x => (Lit.int .i64 x).wf = true)) (o := 0) (T := 3) rfl rfl (by kernel_rfl) (Rd.rds_int Try.underlying3)
  obtain ⟨x1, h1, g1_⟩ := Rd.field hxl hf 1 _ rfl (d := (Kd.int .i64)) (good := (fun x => (Lit.int .i64 x).wf = true)) (o := 1) (T := 3) rfl rfl (by kernel_rfl) (Rd.rds_int Try.underlying3)
  have hK := (Rd.pair_mk (o := 0) h0 (Rd.last_mk (a := (Kd.int .i64)) (o := 1) hl h1))
  exact ⟨⟨x0, x1⟩, (by rw [List.drop_zero] at hK; exact hK), ⟨g0_, g1_⟩⟩
set_option maxRecDepth 100000 in
theorem lifted (os : Os) (started : os.Started) (H : Type) (enc : TypeId × Value → H) :
    ReturnsInHanded {} Try.checked os 9 .any (Rows.easyRefusedSpec.pre6 enc Try.prog Try.f9 Rows.easyRefusedRow.domain false) (Rows.easyRefusedSpec.post enc Try.prog Try.f9 false true false false) := by
  refine returnsInHanded_of_change_sized (C := Try.checked) own started (by kernel_rfl) Try.func9
    (ChangeSpec.witness6 (enc := enc) (C := Try.checked) false ⟨#[], #[.int .u8 0, .slice none 0 0, .slice none 0 0, .int .u8 0], []⟩ 8 (by kernel_rfl) (by kernel_rfl) (by kernel_rfl) (by kernel_rfl)) ?_
  intro W base args ds gs before hval0 hW hcnd hsz0 _
  have hval : ∀ (j : Nat) t v, Try.f9.params[j]? = some t → args[j]? = some v → Value.okWide Try.prog W .any base t v := hval0
  have hW' := hW
  obtain ⟨p, q, hA0, hV, rfl, hfz, hnd⟩ := hW
  have hA : DataW.TrodAll enc Try.prog W 0 (fun _ => true) true Try.f9.params.toList args.toList ds p := hA0
  rw [Try.params9] at hA hval
  obtain ⟨v0, vs0, d0, ds0, p0, q0, hargs, rfl, rfl, h0, r0⟩ := trodAll_cons hA
  obtain ⟨v1, vs1, d1, ds1, p1, q1, rfl, rfl, rfl, h1, r1⟩ := trodAll_cons r0
  obtain ⟨v2, vs2, d2, ds2, p2, q2, rfl, rfl, rfl, h2, r2⟩ := trodAll_cons r1
  obtain ⟨v3, vs3, d3, ds3, p3, q3, rfl, rfl, rfl, h3, r3⟩ := trodAll_cons r2
  obtain ⟨rfl, rfl, rfl⟩ := trodAll_nil r3
  obtain rfl : args = #[v0, v1, v2, v3] := by cases args; simp_all
  obtain ⟨rfl, rfl⟩ := trodVars_none hV
  obtain ⟨a0, rfl, rfl, rfl, w0⟩ := open_int Try.underlying5 (hval 0 5 v0 rfl rfl) h0
  obtain ⟨a1, len1, cap1, rfl⟩ := okWide_slice Try.underlying22 (hval 1 22 v1 rfl rfl)
  have k1 := h1
  have lt1 : ∀ x ∈ p1, x.block < W.heap.size := by obtain ⟨m, hm⟩ := k1; exact DataW.trod_lt m _ _ _ hm
  obtain ⟨l1, ⟨A1, c1, he1, hl1, hC1⟩, g1_⟩ : ∃ xs, ((Kd.slice 38 k38)).K W xs [.slice a1 len1 cap1] ∧ (fun x => (x.length ≤ maxLen ∧ ∀ y ∈ x, g38 y)) xs := by
    obtain ⟨fuel, hf⟩ := h1
    exact (Rd.rds_slice (P := Try.prog) (T := 22) Try.underlying22 (by kernel_rfl) rds38) _ _ _ _ _ _ _ _ _ hf
  obtain ⟨rfl, rfl, rfl⟩ : a1 = A1 ∧ len1 = l1.length ∧ cap1 = c1 := by simpa using he1
  obtain ⟨a2, len2, cap2, rfl⟩ := okWide_slice Try.underlying44 (hval 2 44 v2 rfl rfl)
  have k2 := h2
  have lt2 : ∀ x ∈ p2, x.block < W.heap.size := by obtain ⟨m, hm⟩ := k2; exact DataW.trod_lt m _ _ _ hm
  obtain ⟨l2, ⟨A2, c2, he2, hl2, hC2⟩, g2_⟩ : ∃ xs, ((Kd.slice 52 k52)).K W xs [.slice a2 len2 cap2] ∧ (fun x => (x.length ≤ maxLen ∧ ∀ y ∈ x, g52 y)) xs := by
    obtain ⟨fuel, hf⟩ := h2
    exact (Rd.rds_slice (P := Try.prog) (T := 44) Try.underlying44 (by kernel_rfl) rds52) _ _ _ _ _ _ _ _ _ hf
  obtain ⟨rfl, rfl, rfl⟩ : a2 = A2 ∧ len2 = l2.length ∧ cap2 = c2 := by simpa using he2
  obtain ⟨a3, rfl, rfl, rfl, w3⟩ := open_int Try.underlying5 (hval 3 5 v3 rfl rfl) h3
  clear hA0 hval0 hsz0
  refine (PAll.prebendlaw17_EasyRefused.walk Pure.EasyRefused a0 _ _ l1 _ _ l2 a3 W hC1 hl1 hC2 hl2 w0 g1_ g2_ w3).mono fun e W' ⟨he, bel⟩ => ?_
  subst he
  exact ⟨_, rfl, _, _, _, [], _, [], hW', trodAll_mk1 (shut_bool Try.underlying4 _), (trodAll_cons_mk (shut_int Try.underlying5 w0) (trodAll_cons_mk (Below.trod laidOut (by kernel_rfl) (of_decide_eq_true (by kernel_rfl)) k1 bel lt1) (trodAll_cons_mk (Below.trod laidOut (by kernel_rfl) (of_decide_eq_true (by kernel_rfl)) k2 bel lt2) (trodAll_cons_mk (shut_int Try.underlying5 w3) trodAll_mk0)))), rfl, bel.frame _, fun h => by cases h⟩
theorem over : Rows.easyRefusedRow.holds Try.pinned (OpenSpec.ofChange Rows.easyRefusedSpec) :=
  OpenClaim.holds_of_wide 9 Try.f9 rfl rfl rfl rfl rfl rfl rfl ⟨rfl, rfl, rfl, rfl, rfl⟩ rfl rfl rfl rfl rfl (by kernel_rfl) Try.func9 (by kernel_rfl)
    (of_decide_eq_true (by kernel_rfl)) (by unfold Func.isWrapper; first | (rw [if_pos (by decide +kernel)]; kernel_rfl) | (rw [if_neg (by decide +kernel)]; exact ⟨rfl, rfl⟩))
    (fun os started H enc _ => lifted os started H enc)
theorem proved : Rows.EasyRefusedSaid := over
#print axioms proved
end Go.Proofs.Ytedpoahndddgfaa.easyRefused
namespace Go.Proofs.Ytedpoahndddgfaa
/-- The row, under a short name, for the claim. -/
theorem easyRefused_holds : Rows.EasyRefusedSaid := easyRefused.proved
end Go.Proofs.Ytedpoahndddgfaa
end
