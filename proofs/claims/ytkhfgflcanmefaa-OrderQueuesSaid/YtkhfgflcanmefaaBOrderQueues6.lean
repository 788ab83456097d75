/- OrderQueues: the queue is the stable insertion's, as the document has it, and asks for what its jobs want. -/
import Derived.Test.YtkhfgflcanmefaaBOrderQueues5
import Derived.Deep.Slices
import Derived.Deep.Fields
import Derived.ChangeSame
import Derived.ChangeArms
import Derived.OpenShut
import Derived.Test.YtkhfgflcanmefaaRows
import Derived.ProofKit
import Derived.ShutString
import Derived.ChangeOld
import Derived.Carry
section
set_option linter.unusedVariables false
set_option linter.unusedSimpArgs false
namespace Go.Proofs.Ytkhfgflcanmefaa.Pure
open Go Go.RowKit Go.Proofs.Ytkhfgflcanmefaa.PAll Go.Proofs.YtkhfgflcanmefaaW.PrintWords Go.Proofs.YtkhfgflcanmefaaW.PrintLast
section SortA
variable {α : Type}
structure TP (le : α → α → Bool) : Prop where
  total : ∀ a b, le a b = true ∨ le b a = true
  trans : ∀ {a b c}, le a b = true → le b c = true → le a c = true
def eqv (le : α → α → Bool) (a b : α) : Bool := le a b && le b a
def SEq (le : α → α → Bool) (xs ys : List α) : Prop := ∀ c, xs.filter (eqv le c) = ys.filter (eqv le c)
abbrev Srt (le : α → α → Bool) (xs : List α) : Prop := xs.Pairwise (fun a b => le a b = true)
variable {le : α → α → Bool}
theorem TP.refl (h : TP le) (a : α) : le a a = true := by rcases h.total a a with h | h <;> exact h
theorem TP.of_not (h : TP le) {a b : α} (hn : le a b = false) : le b a = true := by
  rcases h.total a b with h1 | h1
  · rw [hn] at h1; cases h1
  · exact h1
theorem SEq.refl (xs : List α) : SEq le xs xs := fun _ => rfl
theorem SEq.symm {xs ys : List α} (h : SEq le xs ys) : SEq le ys xs := fun c => (h c).symm
theorem SEq.trans {xs ys zs : List α} (h : SEq le xs ys) (h2 : SEq le ys zs) : SEq le xs zs := fun c => (h c).trans (h2 c)
theorem SEq.append {xs ys xs' ys' : List α} (h : SEq le xs ys) (h2 : SEq le xs' ys') : SEq le (xs ++ xs') (ys ++ ys') := fun c => by
  rw [List.filter_append, List.filter_append, h c, h2 c]
theorem SEq.cons (x : α) {xs ys : List α} (h : SEq le xs ys) : SEq le (x :: xs) (x :: ys) := fun c => by
  rw [List.filter_cons, List.filter_cons, h c]
theorem SEq.mem (ht : TP le) {xs ys : List α} (h : SEq le xs ys) {x : α} (hx : x ∈ xs) : x ∈ ys := by
  have h1 : x ∈ xs.filter (eqv le x) := List.mem_filter.2 ⟨hx, by simp [eqv, ht.refl]⟩
  rw [h x] at h1
  exact (List.mem_filter.1 h1).1
theorem SEq.swap (ht : TP le) {A B : List α} (h : ∀ a ∈ A, ∀ b ∈ B, le a b = false) : SEq le (A ++ B) (B ++ A) := fun c => by
  rw [List.filter_append, List.filter_append]
  by_cases hA : A.filter (eqv le c) = []
  · rw [hA]; simp
  · have hB : B.filter (eqv le c) = [] := by
      rw [List.filter_eq_nil_iff]
      intro b hb hcb
      obtain ⟨a, ha⟩ := List.exists_mem_of_ne_nil _ hA
      obtain ⟨ha, hca⟩ := List.mem_filter.1 ha
      simp only [eqv, Bool.and_eq_true] at hca hcb
      have := h a ha b hb
      rw [ht.trans hca.2 hcb.1] at this
      cases this
    rw [hB]; simp
theorem SEq.uniq (ht : TP le) : ∀ {xs ys : List α}, Srt le xs → Srt le ys → SEq le xs ys → xs = ys
  | [], [], _, _, _ => rfl
  | [], y :: ys, _, _, h => by have := SEq.mem ht (SEq.symm h) (List.mem_cons_self (a := y)); simp at this
  | x :: xs, [], _, _, h => by have := SEq.mem ht h (List.mem_cons_self (a := x)); simp at this
  | x :: xs, y :: ys, hx, hy, h => by
    have hx' := List.pairwise_cons.1 hx
    have hy' := List.pairwise_cons.1 hy
    have h1 : le y x = true := by
      rcases List.mem_cons.1 (SEq.mem ht h (List.mem_cons_self (a := x))) with e | e
      · rw [e]; exact ht.refl _
      · exact hy'.1 _ e
    have h2 : le x y = true := by
      rcases List.mem_cons.1 (SEq.mem ht (SEq.symm h) (List.mem_cons_self (a := y))) with e | e
      · rw [e]; exact ht.refl _
      · exact hx'.1 _ e
    have h3 := h x
    rw [List.filter_cons, List.filter_cons, if_pos (by simp [eqv, ht.refl]), if_pos (by simp [eqv, h1, h2])] at h3
    have h4 : x = y := by injection h3
    subst h4
    rw [SEq.uniq ht hx'.2 hy'.2 (fun c => by
      have h5 := h c
      rw [List.filter_cons, List.filter_cons] at h5
      split at h5
      · injection h5
      · exact h5)]
def ins (le : α → α → Bool) (x : α) : List α → List α
  | [] => [x]
  | y :: ys => if le x y = true then x :: y :: ys else y :: ins le x ys
def isort (le : α → α → Bool) : List α → List α
  | [] => []
  | x :: xs => ins le x (isort le xs)
theorem ins_perm (x : α) : ∀ ys : List α, (ins le x ys).Perm (x :: ys)
  | [] => .refl _
  | y :: ys => by
    unfold ins
    split
    · exact .refl _
    · exact ((ins_perm x ys).cons y).trans (.swap x y ys)
theorem isort_perm : ∀ xs : List α, (isort le xs).Perm xs
  | [] => .refl _
  | x :: xs => (ins_perm x _).trans ((isort_perm xs).cons x)
theorem ins_srt (ht : TP le) (x : α) : ∀ {ys : List α}, Srt le ys → Srt le (ins le x ys)
  | [], _ => by simp [ins]
  | y :: ys, h => by
    have h' := List.pairwise_cons.1 h
    unfold ins
    split
    · next hxy => exact List.pairwise_cons.2 ⟨fun z hz => by
        rcases List.mem_cons.1 hz with rfl | hz
        · exact hxy
        · exact ht.trans hxy (h'.1 z hz), h⟩
    · next hxy => exact List.pairwise_cons.2 ⟨fun z hz => by
        rcases List.mem_cons.1 ((ins_perm x ys).mem_iff.1 hz) with rfl | hz
        · exact ht.of_not (by simpa using hxy)
        · exact h'.1 z hz, ins_srt ht x h'.2⟩
theorem isort_srt (ht : TP le) : ∀ xs : List α, Srt le (isort le xs)
  | [] => .nil
  | x :: xs => ins_srt ht x (isort_srt ht xs)
theorem ins_seq (ht : TP le) (x : α) : ∀ ys : List α, SEq le (ins le x ys) (x :: ys)
  | [] => .refl _
  | y :: ys => by
    unfold ins
    split
    · exact .refl _
    · next hxy =>
      refine ((ins_seq ht x ys).cons y).trans ?_
      have := SEq.swap (le := le) ht (A := [x]) (B := [y]) (fun a ha b hb => by simp at ha hb; subst ha; subst hb; simpa using hxy)
      exact (SEq.append this (SEq.refl ys)).symm
theorem isort_seq (ht : TP le) : ∀ xs : List α, SEq le (isort le xs) xs
  | [] => .refl _
  | x :: xs => (ins_seq ht x _).trans ((isort_seq ht xs).cons x)
theorem isort_eq (ht : TP le) {xs ys : List α} (h : Srt le ys) (h2 : SEq le ys xs) : ys = isort le xs :=
  SEq.uniq ht h (isort_srt ht xs) (h2.trans (isort_seq ht xs).symm)
end SortA
section SortB
variable {α : Type} {d : α} {le : α → α → Bool} {cmp : α → α → Option Int}
theorem wr_ (n : Int) (h : -9223372036854775808 ≤ n) (h2 : n < 9223372036854775808) : wrap64 n = n := by unfold wrap64; omega
theorem half_ (x y : Int) (hx : 0 ≤ x) (hy : 0 ≤ y) (h : x + y < 9223372036854775808) : wrap64 ((IntKind.u64.wrap (wrap64 (x + y))) / 2) = (x + y) / 2 := by
  rw [wr_ (x + y) (by omega) h]
  have : IntKind.u64.wrap (x + y) = x + y := by
    show (x + y) % 18446744073709551616 = x + y
    omega
  rw [this, wr_ _ (by omega) (by omega)]
theorem gt_ (p q : List α) (x : α) (i : Int) (hi : i = p.length) : (p ++ x :: q).getD i.toNat d = x := by
  subst hi; simp [List.getD_eq_getElem?_getD]
theorem st_ (p q : List α) (x v : α) (i : Int) (hi : i = p.length) : (p ++ x :: q).set i.toNat v = p ++ v :: q := by
  subst hi; simp
theorem swp_ (p m q : List α) (x y : α) (i j : Int) (hi : i = p.length) (hj : j = p.length + 1 + m.length) : ((p ++ x :: (m ++ y :: q)).set i.toNat y).set j.toNat x = p ++ y :: (m ++ x :: q) := by
  rw [st_ p _ x y i hi]
  have := st_ (p ++ y :: m) q y x j (by simp; omega)
  simpa using this
theorem swp'_ (p m q : List α) (x y : α) (i j : Int) (hi : i = p.length) (hj : j = p.length + 1 + m.length) : ((p ++ x :: (m ++ y :: q)).set j.toNat x).set i.toNat y = p ++ y :: (m ++ x :: q) := by
  have := st_ (p ++ x :: m) q y x j (by simp; omega)
  rw [show p ++ x :: (m ++ y :: q) = (p ++ x :: m) ++ y :: q by simp, this, show (p ++ x :: m) ++ x :: q = p ++ x :: (m ++ x :: q) by simp, st_ p _ x y i hi]
theorem isort_congr (ht : TP le) {xs ys : List α} (h : SEq le xs ys) : isort le xs = isort le ys :=
  isort_eq ht (isort_srt ht xs) ((isort_seq ht xs).trans h)
theorem srt_isort (ht : TP le) {xs : List α} (h : Srt le xs) : isort le xs = xs := (isort_eq ht h (SEq.refl _)).symm
theorem isort_len (xs : List α) : (isort le xs).length = xs.length := (isort_perm xs).length_eq
theorem eq_of_len0 {xs : List α} (h : xs.length = 0) : xs = [] := List.length_eq_zero_iff.1 h

def Cmp (le : α → α → Bool) (cmp : α → α → Option Int) : Prop := ∀ x y, ∃ t, cmp x y = some t ∧ (t < 0 ↔ le y x = false)

structure InsF (d : α) (cmp : α → α → Option Int) (l0 : Nat → List α → Int → Int → Int → Option (List α)) (l1 : Nat → List α → Int → Int → Int → Int → Option (List α)) : Prop where
  e0 : ∀ k xs a b i, l0 (k + 1) xs a b i = if i < b then l1 k xs a b i i else some xs
  e1 : ∀ k xs a b i j, l1 (k + 1) xs a b i j = if j > a then (if 0 ≤ j then (if j < (xs.length : Int) then (if 0 ≤ (wrap64 (j - 1)) then (if (wrap64 (j - 1)) < (xs.length : Int) then
      ((cmp (xs.getD j.toNat d) (xs.getD (wrap64 (j - 1)).toNat d)).bind fun t => (if t < 0 then (l1 k ((xs.set j.toNat (xs.getD (wrap64 (j - 1)).toNat d)).set (wrap64 (j - 1)).toNat (xs.getD j.toNat d)) a b i (wrap64 (j - 1))) else (l0 k xs a b (wrap64 (i + 1))))) else none) else none) else none) else none) else (l0 k xs a b (wrap64 (i + 1)))
variable {l0 : Nat → List α → Int → Int → Int → Option (List α)} {l1 : Nat → List α → Int → Int → Int → Int → Option (List α)}
theorem ins_l1 (ht : TP le) (hcmp : Cmp le cmp) (hF : InsF d cmp l0 l1) {pre post r : List α} {a b i : Int} (ha : a = pre.length) (hi0 : 0 ≤ i) (hi1 : i < 1099511627776) (x : α) : ∀ (n : Nat) (S1 S2 : List α) (j : Int), S1.length = n → j = a + S1.length →
    (pre ++ S1 ++ x :: S2 ++ post).length < 1099511627776 → Srt le (S1 ++ S2) → (∀ z ∈ S2, le z x = false) →
    (∀ S', Srt le S' → SEq le S' (S1 ++ x :: S2) → Ev (fun k => l0 k (pre ++ S' ++ post) a b (i + 1)) r) →
    Ev (fun k => l1 k (pre ++ S1 ++ x :: S2 ++ post) a b i j) r
  | 0, S1, S2, j, hn, hj, hl, hs, hz, hk => by
    have := eq_of_len0 hn
    subst this
    refine Ev.step (fun k => by rw [hF.e1, if_neg (by simp at hj; omega), wr_ _ (by omega) (by omega)]) ?_
    have := hk (x :: S2) (List.pairwise_cons.2 ⟨fun z hz' => ht.of_not (hz z hz'), by simpa using hs⟩) (SEq.refl _)
    simpa using this
  | n + 1, S1, S2, j, hn, hj, hl, hs, hz, hk => by
    obtain ⟨S, y, rfl⟩ : ∃ S y, S1 = S ++ [y] := ⟨S1.dropLast, S1.getLast (by intro e; simp [e] at hn), (List.dropLast_concat_getLast _).symm⟩
    simp at hn hj
    obtain ⟨t, h1, h2⟩ := hcmp x y
    have hlen : ((pre ++ (S ++ [y]) ++ x :: S2 ++ post).length : Int) = pre.length + S.length + 1 + 1 + S2.length + post.length := by simp; omega
    have g1 : (pre ++ (S ++ [y]) ++ x :: S2 ++ post).getD j.toNat d = x := by
      have := gt_ (d := d) (pre ++ S ++ [y]) (S2 ++ post) x j (by simp; omega)
      simpa using this
    have g2 : (pre ++ (S ++ [y]) ++ x :: S2 ++ post).getD (j - 1).toNat d = y := by
      have := gt_ (d := d) (pre ++ S) (x :: S2 ++ post) y (j - 1) (by simp; omega)
      simpa using this
    have g3 : ((pre ++ (S ++ [y]) ++ x :: S2 ++ post).set j.toNat y).set (j - 1).toNat x = pre ++ S ++ x :: (y :: S2) ++ post := by
      have := swp'_ (pre ++ S) [] (S2 ++ post) y x (j - 1) j (by simp; omega) (by simp; omega)
      simpa using this
    refine Ev.step (f := fun k => if t < 0 then l1 k (pre ++ S ++ x :: (y :: S2) ++ post) a b i (j - 1) else l0 k (pre ++ (S ++ [y]) ++ x :: S2 ++ post) a b (i + 1)) (fun k => by
      rw [hF.e1, if_pos (by omega), if_pos (by omega), if_pos (by rw [hlen]; omega), wr_ (j - 1) (by omega) (by omega), wr_ (i + 1) (by omega) (by omega), if_pos (by omega), if_pos (by rw [hlen]; omega), g1, g2, h1, g3]
      rfl) ?_
    have hs' := List.pairwise_append.1 hs
    have hs1 := List.pairwise_append.1 hs'.1
    by_cases ht0 : t < 0
    · simp only [if_pos ht0]
      have hyx := h2.1 ht0
      refine ins_l1 ht hcmp hF ha hi0 hi1 x n S (y :: S2) (j - 1) hn (by omega) (by simp at hl ⊢; omega) (by simpa using hs) (fun z hz' => ?_) (fun S' h3 h4 => hk S' h3 (h4.trans ?_))
      · rcases List.mem_cons.1 hz' with rfl | hz'
        · exact hyx
        · exact hz z hz'
      · have h5 : SEq le ([y] ++ [x]) ([x] ++ [y]) := SEq.swap ht (fun p hp q hq => by simp at hp hq; subst hp; subst hq; exact hyx)
        have := SEq.append (SEq.append (SEq.refl S) h5.symm) (SEq.refl S2)
        simpa using this
    · simp only [if_neg ht0]
      have hyx : le y x = true := by
        cases h : le y x
        · exact absurd (h2.2 h) ht0
        · rfl
      have := hk (S ++ [y] ++ x :: S2) (by
        refine List.pairwise_append.2 ⟨hs'.1, List.pairwise_cons.2 ⟨fun z hz' => ht.of_not (hz z hz'), hs'.2.1⟩, fun p hp q hq => ?_⟩
        have hpy : le p y = true := by
          rcases List.mem_append.1 hp with hp | hp
          · exact hs1.2.2 p hp y (by simp)
          · simp at hp; subst hp; exact ht.refl _
        rcases List.mem_cons.1 hq with rfl | hq
        · exact ht.trans hpy hyx
        · exact hs'.2.2 p hp q hq) (SEq.refl _)
      simpa using this
theorem ins_l0 (ht : TP le) (hcmp : Cmp le cmp) (hF : InsF d cmp l0 l1) {pre post : List α} {a b : Int} (ha : a = pre.length) : ∀ (R S : List α) (i : Int), i = a + S.length → b = i + R.length →
    (pre ++ S ++ R ++ post).length < 1099511627776 → Srt le S → Ev (fun k => l0 k (pre ++ S ++ R ++ post) a b i) (pre ++ isort le (S ++ R) ++ post)
  | [], S, i, hi, hb, hl, hs => by
    refine Ev.step (f := fun _ => some (pre ++ isort le (S ++ []) ++ post)) (fun k => ?_) (Ev.now _)
    simp at hb
    rw [hF.e0, if_neg (by omega)]
    simp [srt_isort ht hs]
  | x :: R, S, i, hi, hb, hl, hs => by
    refine Ev.step (f := fun k => l1 k (pre ++ S ++ x :: R ++ post) a b i i) (fun k => by simp at hb; rw [hF.e0, if_pos (by omega)]) ?_
    have hl' := hl
    simp at hl'
    have h0 := ins_l1 ht hcmp hF (pre := pre) (post := R ++ post) (r := pre ++ isort le (S ++ x :: R) ++ post) (a := a) (b := b) (i := i) ha (by omega) (by omega) x S.length S [] i rfl hi (by simp; omega) (by simpa using hs) (by simp) (fun S' h1 h2 => ?_)
    · simpa using h0
    · have h3 := ins_l0 ht hcmp hF (pre := pre) (post := post) (a := a) (b := b) ha R S' (i + 1) (by
        have : S'.length = S.length + 1 := by
          have e := isort_eq ht h1 h2
          rw [e, isort_len]; simp
        omega) (by simp at hb; omega) (by
          have : S'.length = S.length + 1 := by
            have e := isort_eq ht h1 h2
            rw [e, isort_len]; simp
          simp; omega) h1
      have h4 : isort le (S' ++ R) = isort le (S ++ x :: R) := isort_congr ht (by simpa using SEq.append h2 (SEq.refl R))
      rw [h4] at h3
      simpa using h3
theorem ins_f (ht : TP le) (hcmp : Cmp le cmp) (hF : InsF d cmp l0 l1) {pre S post : List α} {a b : Int} (ha : a = pre.length) (hb : b = a + S.length) (hl : (pre ++ S ++ post).length < 1099511627776) :
    Ev (fun k => l0 k (pre ++ S ++ post) a b (wrap64 (a + 1))) (pre ++ isort le S ++ post) := by
  have hl' := hl
  simp at hl'
  rw [wr_ _ (by omega) (by omega)]
  cases S with
  | nil =>
    refine Ev.step (f := fun _ => some (pre ++ isort le [] ++ post)) (fun k => ?_) (Ev.now _)
    simp at hb
    rw [hF.e0, if_neg (by omega)]
    rfl
  | cons x R =>
    have := ins_l0 ht hcmp hF (pre := pre) (post := post) (a := a) (b := b) ha R [x] (a + 1) (by simp) (by simp at hb; omega) (by simp; simp at hl'; omega) (by simp)
    simpa using this

structure SwF (d : α) (l0 : Nat → List α → Int → Int → Int → Int → Option (List α)) : Prop where
  e0 : ∀ k xs a b n i, l0 (k + 1) xs a b n i = if i < n then (if 0 ≤ (wrap64 (b + i)) then (if (wrap64 (b + i)) < (xs.length : Int) then (if 0 ≤ (wrap64 (a + i)) then (if (wrap64 (a + i)) < (xs.length : Int) then
      (l0 k ((xs.set (wrap64 (a + i)).toNat (xs.getD (wrap64 (b + i)).toNat d)).set (wrap64 (b + i)).toNat (xs.getD (wrap64 (a + i)).toNat d)) a b n (wrap64 (i + 1))) else none) else none) else none) else none) else some xs
variable {s0 : Nat → List α → Int → Int → Int → Int → Option (List α)}
theorem sw_l0 (hF : SwF d s0) {a b n : Int} (ha0 : 0 ≤ a) (hb0 : 0 ≤ b) : ∀ (X Y pre mid post : List α) (i : Int), X.length = Y.length → 0 ≤ i → a + i = pre.length → b + i = pre.length + X.length + mid.length → n = i + X.length →
    (pre ++ X ++ mid ++ Y ++ post).length < 1099511627776 → Ev (fun k => s0 k (pre ++ X ++ mid ++ Y ++ post) a b n i) (pre ++ Y ++ mid ++ X ++ post)
  | [], Y, pre, mid, post, i, hxy, hi, ha, hb, hn, hl => by
    have : Y = [] := eq_of_len0 hxy.symm
    subst this
    refine Ev.step (f := fun _ => some (pre ++ [] ++ mid ++ [] ++ post)) (fun k => ?_) (Ev.now _)
    simp at hn
    rw [hF.e0, if_neg (by omega)]
  | x :: X, [], pre, mid, post, i, hxy, hi, ha, hb, hn, hl => by simp at hxy
  | x :: X, y :: Y, pre, mid, post, i, hxy, hi, ha, hb, hn, hl => by
    have hlen : ((pre ++ x :: X ++ mid ++ y :: Y ++ post).length : Int) = pre.length + X.length + 1 + mid.length + Y.length + 1 + post.length := by simp; omega
    simp at hxy hb hn
    have g1 : (pre ++ x :: X ++ mid ++ y :: Y ++ post).getD (a + i).toNat d = x := by
      have := gt_ (d := d) pre (X ++ mid ++ y :: Y ++ post) x (a + i) (by omega)
      simpa using this
    have g2 : (pre ++ x :: X ++ mid ++ y :: Y ++ post).getD (b + i).toNat d = y := by
      have := gt_ (d := d) (pre ++ x :: X ++ mid) (Y ++ post) y (b + i) (by simp; omega)
      simpa using this
    have g3 : ((pre ++ x :: X ++ mid ++ y :: Y ++ post).set (a + i).toNat y).set (b + i).toNat x = (pre ++ [y]) ++ X ++ (mid ++ [x]) ++ Y ++ post := by
      have := swp_ pre (X ++ mid) (Y ++ post) x y (a + i) (b + i) (by omega) (by simp; omega)
      simpa using this
    refine Ev.step (f := fun k => s0 k ((pre ++ [y]) ++ X ++ (mid ++ [x]) ++ Y ++ post) a b n (i + 1)) (fun k => by
      have hl2 := hlen
      rw [hF.e0, if_pos (by omega), wr_ (b + i) (by omega) (by omega), wr_ (a + i) (by omega) (by omega), wr_ (i + 1) (by omega) (by omega), if_pos (by omega), if_pos (by rw [hlen]; omega), if_pos (by omega), if_pos (by rw [hlen]; omega), g1, g2, g3]) ?_
    have := sw_l0 hF (a := a) (b := b) (n := n) ha0 hb0 X Y (pre ++ [y]) (mid ++ [x]) post (i + 1) hxy (by omega) (by simp; omega) (by simp; omega) (by omega) (by simp at hl ⊢; omega)
    simpa using this

structure RoF (s0 : Nat → List α → Int → Int → Int → Int → Option (List α)) (l0 : Nat → List α → Int → Int → Int → Option (List α)) : Prop where
  e0 : ∀ k xs m i j, l0 (k + 1) xs m i j = if i = j then ((s0 k xs (wrap64 (m - i)) m i 0).bind fun t => some t) else (if i > j then ((s0 k xs (wrap64 (m - i)) m j 0).bind fun t => (l0 k t m (wrap64 (i - j)) j)) else
      ((s0 k xs (wrap64 (m - i)) (wrap64 ((wrap64 (m + j)) - i)) i 0).bind fun t => (l0 k t m i (wrap64 (j - i)))))
variable {r0 : Nat → List α → Int → Int → Int → Option (List α)}
theorem ro_l0 (hS : SwF d s0) (hF : RoF s0 r0) {m : Int} : ∀ (n : Nat) (A B pre post : List α) (i j : Int), A.length + B.length ≤ n → 0 < A.length → 0 < B.length → m = pre.length + A.length → i = A.length → j = B.length →
    (pre ++ A ++ B ++ post).length < 1099511627776 → Ev (fun k => r0 k (pre ++ A ++ B ++ post) m i j) (pre ++ B ++ A ++ post)
  | 0, A, B, pre, post, i, j, hn, hA, hB, hm, hi, hj, hl => by omega
  | n + 1, A, B, pre, post, i, j, hn, hA, hB, hm, hi, hj, hl => by
    have hlen : ((pre ++ A ++ B ++ post).length : Int) = pre.length + A.length + B.length + post.length := by simp; omega
    rcases Nat.lt_trichotomy A.length B.length with h | h | h
    · -- B is longer: its last part comes to the front
      obtain ⟨B1, B2, rfl, h2⟩ : ∃ B1 B2, B = B1 ++ B2 ∧ B2.length = A.length := ⟨B.take (B.length - A.length), B.drop (B.length - A.length), (List.take_append_drop _ _).symm, by simp; omega⟩
      simp at hj hlen hn h hl
      refine Ev.step (f := fun k => (s0 k (pre ++ A ++ (B1 ++ B2) ++ post) (m - i) (m + j - i) i 0).bind fun t => r0 k t m i (j - i)) (fun k => by
        rw [hF.e0, if_neg (by omega), if_neg (by omega), wr_ (m - i) (by omega) (by omega), wr_ (m + j) (by omega) (by omega), wr_ (m + j - i) (by omega) (by omega), wr_ (j - i) (by omega) (by omega)]) ?_
      have hs := sw_l0 hS (a := m - i) (b := m + j - i) (n := i) (by omega) (by omega) A B2 pre B1 post 0 h2.symm (by omega) (by omega) (by omega) (by omega) (by simp; omega)
      have hs' : Ev (fun k => s0 k (pre ++ A ++ (B1 ++ B2) ++ post) (m - i) (m + j - i) i 0) (pre ++ B2 ++ B1 ++ (A ++ post)) := by simpa using hs
      refine Ev.bind hs' ?_
      have := ro_l0 hS hF (m := m) n B2 B1 pre (A ++ post) i (j - i) (by omega) (by omega) (by omega) (by omega) (by omega) (by omega) (by simp; omega)
      simpa using this
    · refine Ev.step (f := fun k => (s0 k (pre ++ A ++ B ++ post) (m - i) m i 0).bind fun t => some t) (fun k => by
        rw [hF.e0, if_pos (by omega), wr_ (m - i) (by omega) (by omega)]) ?_
      have hs := sw_l0 hS (a := m - i) (b := m) (n := i) (by omega) (by omega) A B pre [] post 0 h (by omega) (by omega) (by simp; omega) (by omega) (by simpa using hl)
      refine Ev.bind (a := pre ++ B ++ A ++ post) (by simpa using hs) (Ev.now _)
    · obtain ⟨A1, A2, rfl, h2⟩ : ∃ A1 A2, A = A1 ++ A2 ∧ A1.length = B.length := ⟨A.take B.length, A.drop B.length, (List.take_append_drop _ _).symm, by simp; omega⟩
      simp at hi hlen hn h hl hm
      refine Ev.step (f := fun k => (s0 k (pre ++ (A1 ++ A2) ++ B ++ post) (m - i) m j 0).bind fun t => r0 k t m (i - j) j) (fun k => by
        rw [hF.e0, if_neg (by omega), if_pos (by omega), wr_ (m - i) (by omega) (by omega), wr_ (i - j) (by omega) (by omega)]) ?_
      have hs := sw_l0 hS (a := m - i) (b := m) (n := j) (by omega) (by omega) A1 B pre A2 post 0 h2 (by omega) (by omega) (by omega) (by omega) (by simp; omega)
      have hs' : Ev (fun k => s0 k (pre ++ (A1 ++ A2) ++ B ++ post) (m - i) m j 0) ((pre ++ B) ++ A2 ++ A1 ++ post) := by simpa using hs
      refine Ev.bind hs' ?_
      have := ro_l0 hS hF (m := m) n A2 A1 (pre ++ B) post (i - j) j (by omega) (by omega) (by omega) (by simp; omega) (by omega) (by omega) (by simp; omega)
      simpa using this
end SortB
section SortC
variable {α : Type} {d : α} {le : α → α → Bool} {cmp : α → α → Option Int}
abbrev hlf (x y : Int) : Int := wrap64 ((IntKind.u64.wrap (wrap64 (x + y))) / 2)
structure SyF (d : α) (cmp : α → α → Option Int) (r0 : Nat → List α → Int → Int → Int → Option (List α)) (l0 : Nat → List α → Int → Int → Int → Option (List α)) (l1 : Nat → List α → Int → Int → Option (List α)) (l2 : Nat → List α → Int → Int → Int → Option (List α)) (l3 : Nat → List α → Int → Int → Option (List α))
    (j4 : Nat → List α → Int → Int → Int → Int → Int → Int → Int → Option (List α)) (l4 : Nat → List α → Int → Int → Int → Int → Int → Int → Int → Int → Option (List α)) (j6 : Nat → List α → Int → Int → Int → Int → Int → Int → Bool → Option (List α)) (j7 : Nat → List α → Int → Int → Int → Int → Int → Option (List α)) (j8 : Nat → List α → Int → Int → Int → Int → Int → Bool → Option (List α))
    (f : Nat → List α → Int → Int → Int → Option (List α)) : Prop where
  ef : ∀ k xs a m b, f (k + 1) xs a m b = if wrap64 (m - a) = 1 then l0 k xs a m b else (if wrap64 (b - m) = 1 then l2 k xs m a m else (if m > hlf a b then j4 k xs a m b (hlf a b) (wrap64 (hlf a b + m)) (wrap64 (wrap64 (hlf a b + m) - b)) (hlf a b) else j4 k xs a m b (hlf a b) (wrap64 (hlf a b + m)) a m))
  e0 : ∀ k xs a i j, l0 (k + 1) xs a i j = if i < j then (if 0 ≤ hlf i j then (if hlf i j < (xs.length : Int) then (if 0 ≤ a then (if a < (xs.length : Int) then ((cmp (xs.getD (hlf i j).toNat d) (xs.getD a.toNat d)).bind fun t => (if t < 0 then l0 k xs a (wrap64 (hlf i j + 1)) j else l0 k xs a i (hlf i j))) else none) else none) else none) else none) else l1 k xs i a
  e1 : ∀ k xs i q, l1 (k + 1) xs i q = if q < wrap64 (i - 1) then (if 0 ≤ wrap64 (q + 1) then (if wrap64 (q + 1) < (xs.length : Int) then (if 0 ≤ q then (if q < (xs.length : Int) then l1 k ((xs.set q.toNat (xs.getD (wrap64 (q + 1)).toNat d)).set (wrap64 (q + 1)).toNat (xs.getD q.toNat d)) i (wrap64 (q + 1)) else none) else none) else none) else none) else some xs
  e2 : ∀ k xs m i j, l2 (k + 1) xs m i j = if i < j then (if 0 ≤ m then (if m < (xs.length : Int) then (if 0 ≤ hlf i j then (if hlf i j < (xs.length : Int) then ((cmp (xs.getD m.toNat d) (xs.getD (hlf i j).toNat d)).bind fun t => (if t < 0 then l2 k xs m i (hlf i j) else l2 k xs m (wrap64 (hlf i j + 1)) j)) else none) else none) else none) else none) else l3 k xs i m
  e3 : ∀ k xs i q, l3 (k + 1) xs i q = if q > i then (if 0 ≤ wrap64 (q - 1) then (if wrap64 (q - 1) < (xs.length : Int) then (if 0 ≤ q then (if q < (xs.length : Int) then l3 k ((xs.set q.toNat (xs.getD (wrap64 (q - 1)).toNat d)).set (wrap64 (q - 1)).toNat (xs.getD q.toNat d)) i (wrap64 (q - 1)) else none) else none) else none) else none) else some xs
  ej4 : ∀ k xs a m b mid n st r, j4 (k + 1) xs a m b mid n st r = l4 k xs a m b mid n st r (wrap64 (n - 1))
  e4 : ∀ k xs a m b mid n st r p, l4 (k + 1) xs a m b mid n st r p = if st < r then (if 0 ≤ wrap64 (p - hlf st r) then (if wrap64 (p - hlf st r) < (xs.length : Int) then (if 0 ≤ hlf st r then (if hlf st r < (xs.length : Int) then ((cmp (xs.getD (wrap64 (p - hlf st r)).toNat d) (xs.getD (hlf st r).toNat d)).bind fun t => (if t < 0 then l4 k xs a m b mid n st (hlf st r) p else l4 k xs a m b mid n (wrap64 (hlf st r + 1)) r p)) else none) else none) else none) else none)
    else (if st < m then j6 k xs a m b mid st (wrap64 (n - st)) (decide (m < wrap64 (n - st))) else j6 k xs a m b mid st (wrap64 (n - st)) false)
  ej6 : ∀ k xs a m b mid st en c, j6 (k + 1) xs a m b mid st en c = if c = true then ((r0 k xs m (wrap64 (m - st)) (wrap64 (en - m))).bind fun t => j7 k t a b mid st en) else j7 k xs a b mid st en
  ej7 : ∀ k xs a b mid st en, j7 (k + 1) xs a b mid st en = if a < st then j8 k xs a b mid st en (decide (st < mid)) else j8 k xs a b mid st en false
  ej8 : ∀ k xs a b mid st en c, j8 (k + 1) xs a b mid st en c = if c = true then ((f k xs a st mid).bind fun t => (if mid < en then (if en < b then ((f k t mid en b).bind fun u => some u) else some t) else some t)) else (if mid < en then (if en < b then ((f k xs mid en b).bind fun u => some u) else some xs) else some xs)
variable {s0 : Nat → List α → Int → Int → Int → Int → Option (List α)} {r0 : Nat → List α → Int → Int → Int → Option (List α)} {l0 : Nat → List α → Int → Int → Int → Option (List α)} {l1 : Nat → List α → Int → Int → Option (List α)} {l2 : Nat → List α → Int → Int → Int → Option (List α)} {l3 : Nat → List α → Int → Int → Option (List α)}
    {j4 : Nat → List α → Int → Int → Int → Int → Int → Int → Int → Option (List α)} {l4 : Nat → List α → Int → Int → Int → Int → Int → Int → Int → Int → Option (List α)} {j6 : Nat → List α → Int → Int → Int → Int → Int → Int → Bool → Option (List α)} {j7 : Nat → List α → Int → Int → Int → Int → Int → Option (List α)} {j8 : Nat → List α → Int → Int → Int → Int → Int → Bool → Option (List α)}
    {f : Nat → List α → Int → Int → Int → Option (List α)}
theorem hlf_ (x y : Int) (hx : 0 ≤ x) (hy : 0 ≤ y) (h : x + y < 9223372036854775808) : hlf x y = (x + y) / 2 := half_ x y hx hy h
theorem sy_l1 (hF : SyF d cmp r0 l0 l1 l2 l3 j4 l4 j6 j7 j8 f) (x : α) {i : Int} : ∀ (R pre rest : List α) (q : Int), q = pre.length → i = q + R.length + 1 → (pre ++ x :: (R ++ rest)).length < 1099511627776 →
    Ev (fun k => l1 k (pre ++ x :: (R ++ rest)) i q) (pre ++ R ++ x :: rest)
  | [], pre, rest, q, hq, hi, hl => by
    refine Ev.step (f := fun _ => some (pre ++ [] ++ x :: rest)) (fun k => ?_) (Ev.now _)
    simp at hi hl
    rw [hF.e1, wr_ _ (by omega) (by omega), if_neg (by omega)]
    simp
  | y :: R, pre, rest, q, hq, hi, hl => by
    have hlen : ((pre ++ x :: (y :: R ++ rest)).length : Int) = pre.length + R.length + 2 + rest.length := by simp; omega
    simp at hi hl
    have g1 : (pre ++ x :: (y :: R ++ rest)).getD q.toNat d = x := gt_ (d := d) pre (y :: R ++ rest) x q hq
    have g2 : (pre ++ x :: (y :: R ++ rest)).getD (q + 1).toNat d = y := by
      have := gt_ (d := d) (pre ++ [x]) (R ++ rest) y (q + 1) (by simp; omega)
      simpa using this
    have g3 : ((pre ++ x :: (y :: R ++ rest)).set q.toNat y).set (q + 1).toNat x = (pre ++ [y]) ++ x :: (R ++ rest) := by
      have := swp_ pre [] (R ++ rest) x y q (q + 1) hq (by simp; omega)
      simpa using this
    refine Ev.step (f := fun k => l1 k ((pre ++ [y]) ++ x :: (R ++ rest)) i (q + 1)) (fun k => by
      rw [hF.e1, wr_ (i - 1) (by omega) (by omega), if_pos (by omega), wr_ (q + 1) (by omega) (by omega), if_pos (by omega), if_pos (by rw [hlen]; omega), if_pos (by omega), if_pos (by rw [hlen]; omega), g1, g2, g3]) ?_
    have := sy_l1 hF x (i := i) R (pre ++ [y]) rest (q + 1) (by simp; omega) (by omega) (by simp; omega)
    simpa using this
theorem sy_l3 (hF : SyF d cmp r0 l0 l1 l2 l3 j4 l4 j6 j7 j8 f) (x : α) {i : Int} {pre : List α} (hi : i = pre.length) : ∀ (n : Nat) (R rest : List α) (q : Int), R.length = n → q = i + R.length → (pre ++ R ++ x :: rest).length < 1099511627776 →
    Ev (fun k => l3 k (pre ++ R ++ x :: rest) i q) (pre ++ x :: (R ++ rest))
  | 0, R, rest, q, hn, hq, hl => by
    have := eq_of_len0 hn
    subst this
    refine Ev.step (f := fun _ => some (pre ++ x :: ([] ++ rest))) (fun k => ?_) (Ev.now _)
    simp at hq
    rw [hF.e3, if_neg (by omega)]
    simp
  | n + 1, R, rest, q, hn, hq, hl => by
    obtain ⟨S, y, rfl⟩ : ∃ S y, R = S ++ [y] := ⟨R.dropLast, R.getLast (by intro e; simp [e] at hn), (List.dropLast_concat_getLast _).symm⟩
    have hlen : ((pre ++ (S ++ [y]) ++ x :: rest).length : Int) = pre.length + S.length + 2 + rest.length := by simp; omega
    simp at hn hq hl
    have g1 : (pre ++ (S ++ [y]) ++ x :: rest).getD q.toNat d = x := gt_ (d := d) (pre ++ (S ++ [y])) rest x q (by simp; omega)
    have g2 : (pre ++ (S ++ [y]) ++ x :: rest).getD (q - 1).toNat d = y := by
      have := gt_ (d := d) (pre ++ S) (x :: rest) y (q - 1) (by simp; omega)
      simpa using this
    have g3 : ((pre ++ (S ++ [y]) ++ x :: rest).set q.toNat y).set (q - 1).toNat x = pre ++ S ++ x :: (y :: rest) := by
      have := swp'_ (pre ++ S) [] rest y x (q - 1) q (by simp; omega) (by simp; omega)
      simpa using this
    refine Ev.step (f := fun k => l3 k (pre ++ S ++ x :: (y :: rest)) i (q - 1)) (fun k => by
      rw [hF.e3, if_pos (by omega), wr_ (q - 1) (by omega) (by omega), if_pos (by omega), if_pos (by rw [hlen]; omega), if_pos (by omega), if_pos (by rw [hlen]; omega), g1, g2, g3]) ?_
    have := sy_l3 hF x hi n S (y :: rest) (q - 1) hn (by omega) (by simp; omega)
    simpa using this
theorem sy_l0 (ht : TP le) (hcmp : Cmp le cmp) (hF : SyF d cmp r0 l0 l1 l2 l3 j4 l4 j6 j7 j8 f) {pre B post r : List α} {x : α} {a : Int} (ha : a = pre.length) (hl : (pre ++ x :: (B ++ post)).length < 1099511627776) (hB : Srt le B)
    (hk : ∀ C1 C2, B = C1 ++ C2 → (∀ z ∈ C1, le x z = false) → (∀ z ∈ C2, le x z = true) → Ev (fun k => l1 k (pre ++ x :: (B ++ post)) (a + 1 + C1.length) a) r) :
    ∀ (n : Nat) (B1 M B2 : List α) (i j : Int), M.length ≤ n → B = B1 ++ M ++ B2 → (∀ z ∈ B1, le x z = false) → (∀ z ∈ B2, le x z = true) → i = a + 1 + B1.length → j = i + M.length → Ev (fun k => l0 k (pre ++ x :: (B ++ post)) a i j) r
  | n, B1, [], B2, i, j, hn, hb, h1, h2, hi, hj => by
    refine Ev.step (f := fun k => l1 k (pre ++ x :: (B ++ post)) i a) (fun k => ?_) ?_
    · simp at hj
      rw [hF.e0, if_neg (by omega)]
    · have := hk B1 B2 (by simpa using hb) h1 h2
      rw [hi]; exact this
  | 0, B1, m :: M, B2, i, j, hn, hb, h1, h2, hi, hj => by simp at hn
  | n + 1, B1, m :: M, B2, i, j, hn, hb, h1, h2, hi, hj => by
    have hlen : ((pre ++ x :: (B ++ post)).length : Int) = pre.length + B1.length + (M.length + 1) + B2.length + 1 + post.length := by rw [hb]; simp; omega
    simp only [List.length_cons] at hn hj
    have hh : hlf i j = (i + j) / 2 := hlf_ i j (by omega) (by omega) (by omega)
    obtain ⟨M1, z, M2, hM, hM1⟩ : ∃ M1 z M2, m :: M = M1 ++ z :: M2 ∧ (M1.length : Int) = (i + j) / 2 - i := by
      have hlt : ((i + j) / 2 - i).toNat < (m :: M).length := by simp; omega
      refine ⟨(m :: M).take ((i + j) / 2 - i).toNat, (m :: M)[((i + j) / 2 - i).toNat], (m :: M).drop (((i + j) / 2 - i).toNat + 1), ?_, ?_⟩
      · rw [← List.drop_eq_getElem_cons hlt, List.take_append_drop]
      · rw [List.length_take]; simp; omega
    have hMl : (M1.length : Int) + 1 + M2.length = M.length + 1 := by have := congrArg List.length hM; simp at this; omega
    obtain ⟨t, c1, c2⟩ := hcmp z x
    have g1 : (pre ++ x :: (B ++ post)).getD ((i + j) / 2).toNat d = z := by
      have := gt_ (d := d) (pre ++ x :: (B1 ++ M1)) (M2 ++ B2 ++ post) z ((i + j) / 2) (by simp; omega)
      rw [hb, hM]; simpa using this
    have g2 : (pre ++ x :: (B ++ post)).getD a.toNat d = x := gt_ (d := d) pre (B ++ post) x a ha
    refine Ev.step (f := fun k => if t < 0 then l0 k (pre ++ x :: (B ++ post)) a ((i + j) / 2 + 1) j else l0 k (pre ++ x :: (B ++ post)) a i ((i + j) / 2)) (fun k => by
      rw [hF.e0, if_pos (by omega), hh, if_pos (by omega), if_pos (by rw [hlen]; omega), if_pos (by omega), if_pos (by rw [hlen]; omega), g1, g2, c1, wr_ ((i + j) / 2 + 1) (by omega) (by omega)]
      rfl) ?_
    have hs : Srt le (B1 ++ (M1 ++ z :: M2) ++ B2) := by rw [← hM, ← hb]; exact hB
    have hs1 := List.pairwise_append.1 hs
    have hs2 := List.pairwise_append.1 (List.pairwise_append.1 hs1.1).2.1
    have hs3 := List.pairwise_cons.1 hs2.2.1
    by_cases ht0 : t < 0
    · simp only [if_pos ht0]
      have hxz := c2.1 ht0
      refine sy_l0 ht hcmp hF ha hl hB hk n (B1 ++ (M1 ++ [z])) M2 B2 _ _ (by omega) (by rw [hb, hM]; simp) (fun u hu => ?_) h2 (by simp; omega) (by omega)
      rcases List.mem_append.1 hu with hu | hu
      · exact h1 u hu
      · have huz : le u z = true := by
          rcases List.mem_append.1 hu with hu | hu
          · exact hs2.2.2 u hu z (by simp)
          · simp at hu; subst hu; exact ht.refl _
        cases hxu : le x u
        · rfl
        · rw [ht.trans hxu huz] at hxz; cases hxz
    · simp only [if_neg ht0]
      have hxz : le x z = true := by
        cases h : le x z
        · exact absurd (c2.2 h) ht0
        · rfl
      refine sy_l0 ht hcmp hF ha hl hB hk n B1 M1 (z :: M2 ++ B2) _ _ (by omega) (by rw [hb, hM]; simp) h1 (fun u hu => ?_) hi (by omega)
      rcases List.mem_append.1 hu with hu | hu
      · rcases List.mem_cons.1 hu with rfl | hu
        · exact hxz
        · exact ht.trans hxz (hs3.1 u hu)
      · exact h2 u hu
theorem sy_l2 (ht : TP le) (hcmp : Cmp le cmp) (hF : SyF d cmp r0 l0 l1 l2 l3 j4 l4 j6 j7 j8 f) {pre B post r : List α} {x : α} {a m : Int} (ha : a = pre.length) (hm : m = a + B.length) (hl : (pre ++ B ++ x :: post).length < 1099511627776) (hB : Srt le B)
    (hk : ∀ C1 C2, B = C1 ++ C2 → (∀ z ∈ C1, le z x = true) → (∀ z ∈ C2, le z x = false) → Ev (fun k => l3 k (pre ++ B ++ x :: post) (a + C1.length) m) r) :
    ∀ (n : Nat) (B1 M B2 : List α) (i j : Int), M.length ≤ n → B = B1 ++ M ++ B2 → (∀ z ∈ B1, le z x = true) → (∀ z ∈ B2, le z x = false) → i = a + B1.length → j = i + M.length → Ev (fun k => l2 k (pre ++ B ++ x :: post) m i j) r
  | n, B1, [], B2, i, j, hn, hb, h1, h2, hi, hj => by
    refine Ev.step (f := fun k => l3 k (pre ++ B ++ x :: post) i m) (fun k => ?_) ?_
    · simp at hj
      rw [hF.e2, if_neg (by omega)]
    · have := hk B1 B2 (by simpa using hb) h1 h2
      rw [hi]; exact this
  | 0, B1, m' :: M, B2, i, j, hn, hb, h1, h2, hi, hj => by simp at hn
  | n + 1, B1, m' :: M, B2, i, j, hn, hb, h1, h2, hi, hj => by
    have hlen : ((pre ++ B ++ x :: post).length : Int) = pre.length + B1.length + (M.length + 1) + B2.length + 1 + post.length := by rw [hb]; simp; omega
    have hBl : (B.length : Int) = B1.length + (M.length + 1) + B2.length := by rw [hb]; simp; omega
    simp only [List.length_cons] at hn hj
    have hh : hlf i j = (i + j) / 2 := hlf_ i j (by omega) (by omega) (by omega)
    obtain ⟨M1, z, M2, hM, hM1⟩ : ∃ M1 z M2, m' :: M = M1 ++ z :: M2 ∧ (M1.length : Int) = (i + j) / 2 - i := by
      have hlt : ((i + j) / 2 - i).toNat < (m' :: M).length := by simp; omega
      refine ⟨(m' :: M).take ((i + j) / 2 - i).toNat, (m' :: M)[((i + j) / 2 - i).toNat], (m' :: M).drop (((i + j) / 2 - i).toNat + 1), ?_, ?_⟩
      · rw [← List.drop_eq_getElem_cons hlt, List.take_append_drop]
      · rw [List.length_take]; simp; omega
    have hMl : (M1.length : Int) + 1 + M2.length = M.length + 1 := by have := congrArg List.length hM; simp at this; omega
    obtain ⟨t, c1, c2⟩ := hcmp x z
    have g1 : (pre ++ B ++ x :: post).getD ((i + j) / 2).toNat d = z := by
      have := gt_ (d := d) (pre ++ (B1 ++ M1)) (M2 ++ B2 ++ x :: post) z ((i + j) / 2) (by simp; omega)
      rw [hb, hM]; simpa using this
    have g2 : (pre ++ B ++ x :: post).getD m.toNat d = x := gt_ (d := d) (pre ++ B) post x m (by simp; omega)
    refine Ev.step (f := fun k => if t < 0 then l2 k (pre ++ B ++ x :: post) m i ((i + j) / 2) else l2 k (pre ++ B ++ x :: post) m ((i + j) / 2 + 1) j) (fun k => by
      rw [hF.e2, if_pos (by omega), hh, if_pos (by omega), if_pos (by rw [hlen]; omega), if_pos (by omega), if_pos (by rw [hlen]; omega), g1, g2, c1, wr_ ((i + j) / 2 + 1) (by omega) (by omega)]
      rfl) ?_
    have hs : Srt le (B1 ++ (M1 ++ z :: M2) ++ B2) := by rw [← hM, ← hb]; exact hB
    have hs1 := List.pairwise_append.1 hs
    have hs2 := List.pairwise_append.1 (List.pairwise_append.1 hs1.1).2.1
    have hs3 := List.pairwise_cons.1 hs2.2.1
    by_cases ht0 : t < 0
    · simp only [if_pos ht0]
      have hxz := c2.1 ht0
      refine sy_l2 ht hcmp hF ha hm hl hB hk n B1 M1 (z :: M2 ++ B2) _ _ (by omega) (by rw [hb, hM]; simp) h1 (fun u hu => ?_) hi (by omega)
      rcases List.mem_append.1 hu with hu | hu
      · rcases List.mem_cons.1 hu with rfl | hu
        · exact hxz
        · cases hux : le u x
          · rfl
          · rw [ht.trans (hs3.1 u hu) hux] at hxz; cases hxz
      · exact h2 u hu
    · simp only [if_neg ht0]
      have hxz : le z x = true := by
        cases h : le z x
        · exact absurd (c2.2 h) ht0
        · rfl
      refine sy_l2 ht hcmp hF ha hm hl hB hk n (B1 ++ (M1 ++ [z])) M2 B2 _ _ (by omega) (by rw [hb, hM]; simp) (fun u hu => ?_) h2 (by simp; omega) (by omega)
      rcases List.mem_append.1 hu with hu | hu
      · exact h1 u hu
      · rcases List.mem_append.1 hu with hu | hu
        · exact ht.trans (hs2.2.2 u hu z (by simp)) hxz
        · simp at hu; subst hu; exact hxz
end SortC
section SortD
variable {α : Type} {d : α} {le : α → α → Bool} {cmp : α → α → Option Int}
variable {s0 : Nat → List α → Int → Int → Int → Int → Option (List α)} {r0 : Nat → List α → Int → Int → Int → Option (List α)} {l0 : Nat → List α → Int → Int → Int → Option (List α)} {l1 : Nat → List α → Int → Int → Option (List α)} {l2 : Nat → List α → Int → Int → Int → Option (List α)} {l3 : Nat → List α → Int → Int → Option (List α)}
    {j4 : Nat → List α → Int → Int → Int → Int → Int → Int → Int → Option (List α)} {l4 : Nat → List α → Int → Int → Int → Int → Int → Int → Int → Int → Option (List α)} {j6 : Nat → List α → Int → Int → Int → Int → Int → Int → Bool → Option (List α)} {j7 : Nat → List α → Int → Int → Int → Int → Int → Option (List α)} {j8 : Nat → List α → Int → Int → Int → Int → Int → Bool → Option (List α)}
    {f : Nat → List α → Int → Int → Int → Option (List α)}
theorem sy_l4 (hcmp : Cmp le cmp) (hF : SyF d cmp r0 l0 l1 l2 l3 j4 l4 j6 j7 j8 f) {xs r : List α} {a m b mid nn p s1 s2 : Int} (hl : xs.length < 1099511627776) (h0 : 0 ≤ s1) (h2 : s2 ≤ xs.length)
    (hp : ∀ c, s1 ≤ c → c < s2 → 0 ≤ p - c ∧ p - c < xs.length)
    (hmono : ∀ c e, s1 ≤ c → c ≤ e → e < s2 → le (xs.getD c.toNat d) (xs.getD (p - c).toNat d) = false → le (xs.getD e.toNat d) (xs.getD (p - e).toNat d) = false)
    (hk : ∀ st, s1 ≤ st → st ≤ s2 → (s1 < st → le (xs.getD (st - 1).toNat d) (xs.getD (p - (st - 1)).toNat d) = true) → (st < s2 → le (xs.getD st.toNat d) (xs.getD (p - st).toNat d) = false) →
      Ev (fun k => if st < m then j6 k xs a m b mid st (wrap64 (nn - st)) (decide (m < wrap64 (nn - st))) else j6 k xs a m b mid st (wrap64 (nn - st)) false) r) :
    ∀ (n : Nat) (st e : Int), s1 ≤ st → st ≤ e → e ≤ s2 → (e - st).toNat ≤ n → (s1 < st → le (xs.getD (st - 1).toNat d) (xs.getD (p - (st - 1)).toNat d) = true) → (e < s2 → le (xs.getD e.toNat d) (xs.getD (p - e).toNat d) = false) →
    Ev (fun k => l4 k xs a m b mid nn st e p) r := by
  intro n
  induction n with
  | zero =>
    intro st e q1 q2 q3 q4 q5 q6
    have : st = e := by omega
    subst this
    exact Ev.step (fun k => by rw [hF.e4, if_neg (by omega)]) (hk st q1 q3 q5 q6)
  | succ n ih =>
    intro st e q1 q2 q3 q4 q5 q6
    by_cases hse : st = e
    · subst hse
      exact Ev.step (fun k => by rw [hF.e4, if_neg (by omega)]) (hk st q1 q3 q5 q6)
    have hh : hlf st e = (st + e) / 2 := hlf_ st e (by omega) (by omega) (by omega)
    obtain ⟨c, hc⟩ : ∃ c, (st + e) / 2 = c := ⟨_, rfl⟩
    have hc1 : st ≤ c := by omega
    have hc2 : c < e := by omega
    have hpc := hp c (by omega) (by omega)
    obtain ⟨t, c1, c2⟩ := hcmp (xs.getD (p - c).toNat d) (xs.getD c.toNat d)
    refine Ev.step (f := fun k => if t < 0 then l4 k xs a m b mid nn st c p else l4 k xs a m b mid nn (c + 1) e p) (fun k => by
      rw [hF.e4, if_pos (by omega), hh, hc, wr_ (p - c) (by omega) (by omega), if_pos (by omega), if_pos (by omega), if_pos (by omega), if_pos (by omega), c1, wr_ (c + 1) (by omega) (by omega)]
      rfl) ?_
    by_cases ht0 : t < 0
    · simp only [if_pos ht0]
      exact ih st c q1 hc1 (by omega) (by omega) q5 (fun _ => c2.1 ht0)
    · simp only [if_neg ht0]
      refine ih (c + 1) e (by omega) (by omega) q3 (by omega) (fun _ => ?_) q6
      rw [show c + 1 - 1 = c by omega]
      cases h : le (xs.getD c.toNat d) (xs.getD (p - c).toNat d)
      · exact absurd (c2.2 h) ht0
      · rfl
theorem gA_ (pre A rest : List α) (c : Int) (i : Nat) (h : i < A.length) (hc : c = pre.length + i) : (pre ++ A ++ rest).getD c.toNat d = A[i] := by
  subst hc
  rw [List.getD_eq_getElem?_getD, show ((pre.length : Int) + (i : Int)).toNat = pre.length + i by omega, List.append_assoc, List.getElem?_append_right (by omega), show pre.length + i - pre.length = i by omega, List.getElem?_append_left h, List.getElem?_eq_getElem h]
  rfl
theorem srt_get {A : List α} (h : Srt le A) (ht : TP le) {i j : Nat} (hij : i ≤ j) (hj : j < A.length) : le (A[i]'(by omega)) A[j] = true := by
  rcases Nat.lt_or_eq_of_le hij with h1 | rfl
  · exact (List.pairwise_iff_getElem.1 h) i j (by omega) hj h1
  · exact ht.refl _
theorem sy_f (ht : TP le) (hcmp : Cmp le cmp) (hS : SwF d s0) (hR : RoF s0 r0) (hF : SyF d cmp r0 l0 l1 l2 l3 j4 l4 j6 j7 j8 f) : ∀ (n : Nat) (A B pre post : List α) (a m b : Int), A.length + B.length ≤ n → 0 < A.length → 0 < B.length → a = pre.length → m = a + A.length → b = m + B.length →
    (pre ++ A ++ B ++ post).length < 1099511627776 → Srt le A → Srt le B → Ev (fun k => f k (pre ++ A ++ B ++ post) a m b) (pre ++ isort le (A ++ B) ++ post) := by
  intro n
  induction n with
  | zero => intro A B pre post a m b hn hA hB; omega
  | succ n ih =>
  intro A B pre post a m b hn hA hB ha hm hb hl sA sB
  have hlen : ((pre ++ A ++ B ++ post).length : Int) = pre.length + A.length + B.length + post.length := by simp; omega
  have hl' := hl
  simp only [List.length_append] at hl'
  by_cases hA1 : A.length = 1
  · -- one element, then the second part
    obtain ⟨x, rfl⟩ : ∃ x, A = [x] := by
      match A, hA1 with
      | [x], _ => exact ⟨x, rfl⟩
    have e1 : pre ++ [x] ++ B ++ post = pre ++ x :: (B ++ post) := by simp
    rw [e1] at hl ⊢
    simp at hm
    refine Ev.step (f := fun k => l0 k (pre ++ x :: (B ++ post)) a m b) (fun k => by
      rw [hF.ef, wr_ (m - a) (by omega) (by omega), if_pos (by omega)]) ?_
    refine sy_l0 ht hcmp hF ha hl sB (fun C1 C2 hC h1 h2 => ?_) B.length [] B [] m b (by omega) (by simp) (by simp) (by simp) (by simp; omega) (by omega)
    subst hC
    have h3 := sy_l1 hF x (i := a + 1 + C1.length) C1 pre (C2 ++ post) a ha (by omega) (by simp at hl ⊢; omega)
    have h4 : C1 ++ x :: C2 = isort le ([x] ++ (C1 ++ C2)) := by
      have hs := List.pairwise_append.1 sB
      refine isort_eq ht (List.pairwise_append.2 ⟨hs.1, List.pairwise_cons.2 ⟨h2, hs.2.1⟩, fun p hp q hq => ?_⟩) ?_
      · rcases List.mem_cons.1 hq with rfl | hq
        · exact ht.of_not (h1 p hp)
        · exact hs.2.2 p hp q hq
      · have := SEq.append (SEq.swap ht (A := [x]) (B := C1) (fun p hp q hq => by simp at hp; subst hp; exact h1 q hq)).symm (SEq.refl C2)
        simpa using this
    rw [← h4]
    simpa using h3
  by_cases hB1 : B.length = 1
  · obtain ⟨x, rfl⟩ : ∃ x, B = [x] := by
      match B, hB1 with
      | [x], _ => exact ⟨x, rfl⟩
    have e1 : pre ++ A ++ [x] ++ post = pre ++ A ++ x :: post := by simp
    rw [e1] at hl ⊢
    simp at hb
    refine Ev.step (f := fun k => l2 k (pre ++ A ++ x :: post) m a m) (fun k => by
      rw [hF.ef, wr_ (m - a) (by omega) (by omega), if_neg (by omega), wr_ (b - m) (by omega) (by omega), if_pos (by omega)]) ?_
    refine sy_l2 ht hcmp hF ha hm hl sA (fun C1 C2 hC h1 h2 => ?_) A.length [] A [] a m (by omega) (by simp) (by simp) (by simp) (by simp) (by omega)
    subst hC
    have h3 := sy_l3 hF x (i := a + C1.length) (pre := pre ++ C1) (by simp; omega) C2.length C2 post m rfl (by simp at hm; omega) (by simp at hl ⊢; omega)
    have h4 : C1 ++ x :: C2 = isort le ((C1 ++ C2) ++ [x]) := by
      have hs := List.pairwise_append.1 sA
      refine isort_eq ht (List.pairwise_append.2 ⟨hs.1, List.pairwise_cons.2 ⟨fun z hz => ht.of_not (h2 z hz), hs.2.1⟩, fun p hp q hq => ?_⟩) ?_
      · rcases List.mem_cons.1 hq with rfl | hq
        · exact h1 p hp
        · exact hs.2.2 p hp q hq
      · have := SEq.append (SEq.refl C1) (SEq.swap ht (A := C2) (B := [x]) (fun p hp q hq => by simp at hq; subst hq; exact h2 p hp)).symm
        simpa using this
    rw [← h4]
    simpa using h3
  -- the general case
  have hh : hlf a b = (a + b) / 2 := hlf_ a b (by omega) (by omega) (by omega)
  obtain ⟨mid, hmid⟩ : ∃ mid, (a + b) / 2 = mid := ⟨_, rfl⟩
  have hmid1 : a < mid := by omega
  have hmid2 : mid < b := by omega
  obtain ⟨xs, hxs⟩ : ∃ xs, xs = pre ++ A ++ B ++ post := ⟨_, rfl⟩
  have hxl : (xs.length : Int) = pre.length + A.length + B.length + post.length := by rw [hxs]; exact hlen
  have getA : ∀ (c : Int) (i : Nat) (h : i < A.length), c = a + i → xs.getD c.toNat d = A[i] := fun c i h hc => by
    rw [hxs, List.append_assoc (pre ++ A)]; exact gA_ pre A (B ++ post) c i h (by omega)
  have getB : ∀ (c : Int) (i : Nat) (h : i < B.length), c = m + i → xs.getD c.toNat d = B[i] := fun c i h hc => by
    rw [hxs]; exact gA_ (pre ++ A) B post c i h (by simp; omega)
  have leA : ∀ c e : Int, a ≤ c → c ≤ e → e < m → le (xs.getD c.toNat d) (xs.getD e.toNat d) = true := fun c e h1 h2 h3 => by
    rw [getA c (c - a).toNat (by omega) (by omega), getA e (e - a).toNat (by omega) (by omega)]
    exact srt_get sA ht (by omega) (by omega)
  have leB : ∀ c e : Int, m ≤ c → c ≤ e → e < b → le (xs.getD c.toNat d) (xs.getD e.toNat d) = true := fun c e h1 h2 h3 => by
    rw [getB c (c - m).toNat (by omega) (by omega), getB e (e - m).toNat (by omega) (by omega)]
    exact srt_get sB ht (by omega) (by omega)
  -- what follows the search
  have follow : ∀ st : Int, a ≤ st → st ≤ m → m ≤ mid + m - st → mid + m - st ≤ b → (a < st → mid + m - st < b → le (xs.getD (st - 1).toNat d) (xs.getD (mid + m - st).toNat d) = true) → (st < m → m < mid + m - st → le (xs.getD st.toNat d) (xs.getD (mid + m - 1 - st).toNat d) = false) →
      Ev (fun k => if st < m then j6 k xs a m b mid st (wrap64 (mid + m - st)) (decide (m < wrap64 (mid + m - st))) else j6 k xs a m b mid st (wrap64 (mid + m - st)) false) (pre ++ isort le (A ++ B) ++ post) := by
    intro st q1 q2 q3 q4 q5 q6
    rw [wr_ (mid + m - st) (by omega) (by omega)]
    obtain ⟨en, hen⟩ : ∃ en, mid + m - st = en := ⟨_, rfl⟩
    rw [hen] at q3 q4 q5 q6 ⊢
    rw [show mid + m - 1 - st = en - 1 by omega] at q6
    obtain ⟨A1, A2, hA12, hA1l⟩ : ∃ A1 A2, A = A1 ++ A2 ∧ (A1.length : Int) = st - a := ⟨A.take (st - a).toNat, A.drop (st - a).toNat, (List.take_append_drop _ _).symm, by rw [List.length_take]; omega⟩
    obtain ⟨B1, B2, hB12, hB1l⟩ : ∃ B1 B2, B = B1 ++ B2 ∧ (B1.length : Int) = en - m := ⟨B.take (en - m).toNat, B.drop (en - m).toNat, (List.take_append_drop _ _).symm, by rw [List.length_take]; omega⟩
    have lA : (A.length : Int) = A1.length + A2.length := by rw [hA12]; simp
    have lB : (B.length : Int) = B1.length + B2.length := by rw [hB12]; simp
    have sA' := List.pairwise_append.1 (hA12 ▸ sA)
    have sB' := List.pairwise_append.1 (hB12 ▸ sB)
    -- each of A1 is at most each of B2
    have hAB : ∀ p ∈ A1, ∀ q ∈ B2, le p q = true := by
      intro p hp q hq
      obtain ⟨i, hi, rfl⟩ := List.getElem_of_mem hp
      obtain ⟨j, hj, rfl⟩ := List.getElem_of_mem hq
      have h1 := q5 (by omega) (by omega)
      have h2 := leA (a + i) (st - 1) (by omega) (by omega) (by omega)
      have h3 := leB en (en + j) (by omega) (by omega) (by omega)
      rw [getA (a + i) i (by omega) rfl] at h2
      rw [getB (en + j) (B1.length + j) (by omega) (by omega)] at h3
      have e1 : A[i]'(by omega) = A1[i] := by simp only [hA12]; exact List.getElem_append_left hi
      have e2 : B[B1.length + j]'(by omega) = B2[j] := by simp only [hB12]; rw [List.getElem_append_right (by omega)]; simp
      rw [e1] at h2; rw [e2] at h3
      exact ht.trans (ht.trans h2 h1) h3
    -- each of B1 is below each of A2
    have hBA : ∀ p ∈ A2, ∀ q ∈ B1, le p q = false := by
      intro p hp q hq
      obtain ⟨i, hi, rfl⟩ := List.getElem_of_mem hp
      obtain ⟨j, hj, rfl⟩ := List.getElem_of_mem hq
      have h1 := q6 (by omega) (by omega)
      have h2 := leA st (st + i) (by omega) (by omega) (by omega)
      have h3 := leB (m + j) (en - 1) (by omega) (by omega) (by omega)
      rw [getA (st + i) (A1.length + i) (by omega) (by omega)] at h2
      rw [getB (m + j) j (by omega) rfl] at h3
      have e1 : A[A1.length + i]'(by omega) = A2[i] := by simp only [hA12]; rw [List.getElem_append_right (by omega)]; simp
      have e2 : B[j]'(by omega) = B1[j] := by simp only [hB12]; exact List.getElem_append_left hj
      rw [e1] at h2; rw [e2] at h3
      cases h : le A2[i] B1[j]
      · rfl
      · rw [ht.trans (ht.trans h2 h) h3] at h1; cases h1
    -- the two halves, each put in order
    have hfin : isort le (A1 ++ B1) ++ isort le (A2 ++ B2) = isort le (A ++ B) := by
      refine isort_eq ht (List.pairwise_append.2 ⟨isort_srt ht _, isort_srt ht _, fun p hp q hq => ?_⟩) ?_
      · have hp := (isort_perm (le := le) _).mem_iff.1 hp
        have hq := (isort_perm (le := le) _).mem_iff.1 hq
        rcases List.mem_append.1 hp with hp | hp <;> rcases List.mem_append.1 hq with hq | hq
        · exact sA'.2.2 p hp q hq
        · exact hAB p hp q hq
        · exact ht.of_not (hBA q hq p hp)
        · exact sB'.2.2 p hp q hq
      · have h1 := SEq.append (isort_seq ht (A1 ++ B1)) (isort_seq ht (A2 ++ B2))
        have h2 := SEq.append (SEq.append (SEq.refl A1) (SEq.swap ht hBA).symm) (SEq.refl B2)
        refine h1.trans ?_
        rw [hA12, hB12]
        simpa using h2
    -- the last two calls
    have last : ∀ ys, ys = pre ++ A1 ++ B1 ++ A2 ++ B2 ++ post → Ev (fun k => j7 k ys a b mid st en) (pre ++ isort le (A ++ B) ++ post) := by
      intro ys hys
      have hyl : (ys.length : Int) = xs.length := by rw [hys, hxl]; simp; omega
      -- the second call
      have sec : ∀ zs, zs = pre ++ isort le (A1 ++ B1) ++ A2 ++ B2 ++ post → Ev (fun k => if mid < en then (if en < b then ((f k zs mid en b).bind fun u => some u) else some zs) else some zs) (pre ++ isort le (A ++ B) ++ post) := by
        intro zs hzs
        have hil : ((isort le (A1 ++ B1)).length : Int) = A1.length + B1.length := by rw [isort_len]; simp
        by_cases h1 : mid < en
        · by_cases h2 : en < b
          · simp only [if_pos h1, if_pos h2]
            have h3 := ih A2 B2 (pre ++ isort le (A1 ++ B1)) post mid en b (by omega) (by omega) (by omega) (by simp; omega) (by omega) (by omega) (by simp; omega) sA'.2.1 sB'.2.1
            have h4 : zs = (pre ++ isort le (A1 ++ B1)) ++ A2 ++ B2 ++ post := by rw [hzs]
            refine Ev.bind (a := pre ++ isort le (A ++ B) ++ post) ?_ (Ev.now _)
            rw [h4, ← hfin]
            simpa using h3
          · have hB2 : B2 = [] := eq_of_len0 (by omega)
            simp only [if_pos h1, if_neg h2]
            have h5 : zs = pre ++ isort le (A ++ B) ++ post := by
              rw [hzs, ← hfin, hB2, srt_isort ht (xs := A2 ++ []) (by simpa using sA'.2.1)]; simp
            rw [h5]; exact Ev.now _
        · have hA2 : A2 = [] := eq_of_len0 (by omega)
          simp only [if_neg h1]
          have h5 : zs = pre ++ isort le (A ++ B) ++ post := by
            rw [hzs, ← hfin, hA2, srt_isort ht (xs := [] ++ B2) (by simpa using sB'.2.1)]; simp
          rw [h5]; exact Ev.now _
      refine Ev.step (f := fun k => j8 k ys a b mid st en (decide (a < st ∧ st < mid))) (fun k => by
        rw [hF.ej7]
        by_cases h1 : a < st
        · rw [if_pos h1]; simp [h1]
        · rw [if_neg h1]; simp [h1]) ?_
      by_cases h1 : a < st ∧ st < mid
      · rw [decide_eq_true h1]
        refine Ev.step (fun k => by rw [hF.ej8, if_pos rfl]) ?_
        have h3 := ih A1 B1 pre (A2 ++ B2 ++ post) a st mid (by omega) (by omega) (by omega) ha (by omega) (by omega) (by simp; omega) sA'.1 sB'.1
        refine Ev.bind (a := pre ++ isort le (A1 ++ B1) ++ A2 ++ B2 ++ post) ?_ (sec _ rfl)
        rw [hys]
        simpa using h3
      · rw [decide_eq_false h1]
        refine Ev.step (fun k => by rw [hF.ej8, if_neg (by simp)]) (sec _ ?_)
        have : isort le (A1 ++ B1) = A1 ++ B1 := by
          refine srt_isort ht ?_
          by_cases h2 : a < st
          · have hB1 : B1 = [] := eq_of_len0 (by omega)
            rw [hB1]; simpa using sA'.1
          · have hA1 : A1 = [] := eq_of_len0 (by omega)
            rw [hA1]; simpa using sB'.1
        rw [hys, this]
        simp
    by_cases h1 : st < m ∧ m < en
    · have e1 : ∀ k, (if st < m then j6 k xs a m b mid st en (decide (m < en)) else j6 k xs a m b mid st en false) = j6 k xs a m b mid st en true := fun k => by rw [if_pos h1.1, decide_eq_true h1.2]
      refine Ev.congr e1 (Ev.step (fun k => by rw [hF.ej6, if_pos rfl, wr_ (m - st) (by omega) (by omega), wr_ (en - m) (by omega) (by omega)]) ?_)
      have h3 := ro_l0 hS hR (m := m) (A2.length + B1.length) A2 B1 (pre ++ A1) (B2 ++ post) (m - st) (en - m) (Nat.le_refl _) (by omega) (by omega) (by simp; omega) (by omega) (by omega) (by simp; omega)
      refine Ev.bind (a := pre ++ A1 ++ B1 ++ A2 ++ B2 ++ post) ?_ (last _ rfl)
      rw [hxs, hA12, hB12]
      simpa using h3
    · have e1 : ∀ k, (if st < m then j6 k xs a m b mid st en (decide (m < en)) else j6 k xs a m b mid st en false) = j6 k xs a m b mid st en false := fun k => by
        by_cases h2 : st < m
        · rw [if_pos h2, decide_eq_false (fun h3 => h1 ⟨h2, h3⟩)]
        · rw [if_neg h2]
      refine Ev.congr e1 (Ev.step (fun k => by rw [hF.ej6, if_neg (by simp)]) (last _ ?_))
      rw [hxs, hA12, hB12]
      by_cases h2 : st < m
      · have hB1 : B1 = [] := eq_of_len0 (by omega)
        rw [hB1]; simp
      · have hA2 : A2 = [] := eq_of_len0 (by omega)
        rw [hA2]; simp
  rw [← hxs]
  have hp : ∀ s1 s2 : Int, a ≤ s1 → s2 ≤ m → m ≤ mid + m - s2 → mid + m - s1 ≤ b → s1 ≤ s2 → (s1 = a ∨ mid + m - s1 = b) → (s2 = m ∨ mid + m - s2 = m) → Ev (fun k => l4 k xs a m b mid (mid + m) s1 s2 (mid + m - 1)) (pre ++ isort le (A ++ B) ++ post) := by
    intro s1 s2 q1 q2 q3 q4 q5 q6 q7
    refine sy_l4 hcmp hF (by omega) (by omega) (by omega) (fun c h1 h2 => by omega) (fun c e h1 h2 h3 h4 => ?_) (fun st h1 h2 h3 h4 => ?_) (s2 - s1).toNat s1 s2 (Int.le_refl _) q5 (Int.le_refl _) (Nat.le_refl _) (fun h => by omega) (fun h => by omega)
    · have g1 := leA c e (by omega) h2 (by omega)
      have g2 := leB (mid + m - 1 - e) (mid + m - 1 - c) (by omega) (by omega) (by omega)
      cases h : le (xs.getD e.toNat d) (xs.getD (mid + m - 1 - e).toNat d)
      · rfl
      · rw [ht.trans (ht.trans g1 h) g2] at h4; cases h4
    · refine follow st (by omega) (by omega) (by omega) (by omega) (fun h5 h6 => ?_) (fun h5 h6 => ?_)
      · have := h3 (by omega)
        rw [show mid + m - 1 - (st - 1) = mid + m - st by omega] at this
        exact this
      · exact h4 (by omega)
  by_cases hmm : m > mid
  · refine Ev.step (f := fun k => j4 k xs a m b mid (mid + m) (mid + m - b) mid) (fun k => by
      rw [hF.ef, wr_ (m - a) (by omega) (by omega), if_neg (by omega), wr_ (b - m) (by omega) (by omega), if_neg (by omega), hh, hmid, if_pos hmm, wr_ (mid + m) (by omega) (by omega), wr_ (mid + m - b) (by omega) (by omega)]) ?_
    refine Ev.step (f := fun k => l4 k xs a m b mid (mid + m) (mid + m - b) mid (mid + m - 1)) (fun k => by
      rw [hF.ej4, wr_ (mid + m - 1) (by omega) (by omega)]) ?_
    exact hp _ _ (by omega) (by omega) (by omega) (by omega) (by omega) (by omega) (by omega)
  · refine Ev.step (f := fun k => j4 k xs a m b mid (mid + m) a m) (fun k => by
      rw [hF.ef, wr_ (m - a) (by omega) (by omega), if_neg (by omega), wr_ (b - m) (by omega) (by omega), if_neg (by omega), hh, hmid, if_neg hmm, wr_ (mid + m) (by omega) (by omega)]) ?_
    refine Ev.step (f := fun k => l4 k xs a m b mid (mid + m) a m (mid + m - 1)) (fun k => by
      rw [hF.ej4, wr_ (mid + m - 1) (by omega) (by omega)]) ?_
    exact hp _ _ (by omega) (by omega) (by omega) (by omega) (by omega) (by omega) (by omega)
end SortD
section SortE
variable {α : Type} {d : α} {le : α → α → Bool} {cmp : α → α → Option Int}
variable {i0 : Nat → List α → Int → Int → Int → Option (List α)} {i1 : Nat → List α → Int → Int → Int → Int → Option (List α)} {s0 : Nat → List α → Int → Int → Int → Int → Option (List α)} {r0 : Nat → List α → Int → Int → Int → Option (List α)} {l0 : Nat → List α → Int → Int → Int → Option (List α)} {l1 : Nat → List α → Int → Int → Option (List α)} {l2 : Nat → List α → Int → Int → Int → Option (List α)} {l3 : Nat → List α → Int → Int → Option (List α)}
    {j4 : Nat → List α → Int → Int → Int → Int → Int → Int → Int → Option (List α)} {l4 : Nat → List α → Int → Int → Int → Int → Int → Int → Int → Int → Option (List α)} {j6 : Nat → List α → Int → Int → Int → Int → Int → Int → Bool → Option (List α)} {j7 : Nat → List α → Int → Int → Int → Int → Int → Option (List α)} {j8 : Nat → List α → Int → Int → Int → Int → Int → Bool → Option (List α)}
    {f : Nat → List α → Int → Int → Int → Option (List α)}
structure StF (i0 : Nat → List α → Int → Int → Int → Option (List α)) (f : Nat → List α → Int → Int → Int → Option (List α)) (t0 : Nat → List α → Int → Int → Int → Int → Option (List α)) (t1 : Nat → List α → Int → Int → Option (List α)) (t2 : Nat → List α → Int → Int → Int → Int → Option (List α)) : Prop where
  e0 : ∀ k xs n s a b, t0 (k + 1) xs n s a b = if b ≤ n then ((i0 k xs a b (wrap64 (a + 1))).bind fun t => t0 k t n s b (wrap64 (b + s))) else ((i0 k xs a n (wrap64 (a + 1))).bind fun t => t1 k t n s)
  e1 : ∀ k xs n s, t1 (k + 1) xs n s = if s < n then t2 k xs n s 0 (wrap64 (2 * s)) else some xs
  e2 : ∀ k xs n s a b, t2 (k + 1) xs n s a b = if b ≤ n then ((f k xs a (wrap64 (a + s)) b).bind fun t => t2 k t n s b (wrap64 (b + wrap64 (2 * s)))) else (if wrap64 (a + s) < n then ((f k xs a (wrap64 (a + s)) n).bind fun t => t1 k t n (wrap64 (s * 2))) else t1 k xs n (wrap64 (s * 2)))
variable {t0 : Nat → List α → Int → Int → Int → Int → Option (List α)} {t1 : Nat → List α → Int → Int → Option (List α)} {t2 : Nat → List α → Int → Int → Int → Int → Option (List α)}
inductive Blk (le : α → α → Bool) (s : Nat) : List α → Prop
  | last {xs : List α} : xs.length ≤ s → Srt le xs → Blk le s xs
  | more {B R : List α} : B.length = s → Srt le B → Blk le s R → Blk le s (B ++ R)
theorem Blk.srt {s : Nat} : ∀ {xs : List α}, Blk le s xs → xs.length ≤ s → Srt le xs
  | _, .last _ h, _ => h
  | _, .more (B := B) (R := R) hB h hR, hl => by
    have : R = [] := eq_of_len0 (by simp at hl; omega)
    rw [this]; simpa using h
theorem Blk.split {s : Nat} {xs : List α} (h : Blk le s xs) (hl : s < xs.length) : ∃ B R, xs = B ++ R ∧ B.length = s ∧ Srt le B ∧ Blk le s R := by
  cases h with
  | last h1 h2 => omega
  | more h1 h2 h3 => exact ⟨_, _, rfl, h1, h2, h3⟩
theorem stl_l2 (ht : TP le) (hcmp : Cmp le cmp) (hS : SwF d s0) (hR : RoF s0 r0) (hF : SyF d cmp r0 l0 l1 l2 l3 j4 l4 j6 j7 j8 f) (hT : StF i0 f t0 t1 t2) {n s : Nat} (hs : 0 < s) (hn : n < 1099511627776) (hs2 : s < 1099511627776) {r : List α} {zs : List α}
    (hk : ∀ ys : List α, ys.length = n → SEq le ys zs → Blk le (2 * s) ys → Ev (fun k => t1 k ys n ((s : Int) * 2)) r) : ∀ (c : Nat) (pre R : List α) (a b : Int), R.length ≤ c → a = pre.length → b = a + 2 * s → (pre ++ R).length = n → SEq le (pre ++ R) zs → Blk le s R →
      (∀ R', Blk le (2 * s) R' → Blk le (2 * s) (pre ++ R')) → Ev (fun k => t2 k (pre ++ R) n s a b) r := by
  intro c
  induction c with
  | zero =>
    intro pre R a b hc ha hb hl hz hB hP
    have hR0 : R = [] := eq_of_len0 (by omega)
    subst hR0
    simp at hl
    refine Ev.step (f := fun k => t1 k (pre ++ []) n ((s : Int) * 2)) (fun k => by
      rw [hT.e2, if_neg (by omega), wr_ (a + s) (by omega) (by omega), if_neg (by omega), wr_ ((s : Int) * 2) (by omega) (by omega)]) ?_
    exact hk _ (by simpa using hl) hz (hP [] (.last (by simp) .nil))
  | succ c ih =>
    intro pre R a b hc ha hb hl hz hB hP
    have hl2 : pre.length + R.length = n := by simpa using hl
    by_cases h1 : b ≤ n
    · obtain ⟨B1, R1, rfl, hB1, sB1, hR1⟩ := hB.split (by omega)
      obtain ⟨B2, R2, rfl, hB2, sB2, hR2⟩ : ∃ B R, R1 = B ++ R ∧ B.length = s ∧ Srt le B ∧ Blk le s R := by
        simp at hl2
        by_cases h2 : s < R1.length
        · exact hR1.split h2
        · exact ⟨R1, [], by simp, by omega, hR1.srt (by omega), .last (by simp) .nil⟩
      simp at hl2 hc
      refine Ev.step (f := fun k => (f k (pre ++ (B1 ++ (B2 ++ R2))) a (a + s) b).bind fun t => t2 k t n s b (b + 2 * s)) (fun k => by
        rw [hT.e2, if_pos h1, wr_ (a + s) (by omega) (by omega), wr_ (2 * (s : Int)) (by omega) (by omega), wr_ (b + 2 * s) (by omega) (by omega)]) ?_
      have h3 := sy_f ht hcmp hS hR hF (B1.length + B2.length) B1 B2 pre R2 a (a + s) b (Nat.le_refl _) (by omega) (by omega) ha (by omega) (by omega) (by simp; omega) sB1 sB2
      refine Ev.bind (a := pre ++ isort le (B1 ++ B2) ++ R2) (by simpa using h3) ?_
      have hil : (isort le (B1 ++ B2)).length = 2 * s := by rw [isort_len]; simp; omega
      refine ih (pre ++ isort le (B1 ++ B2)) R2 b (b + 2 * s) (by omega) (by simp; omega) rfl (by simp; omega) (SEq.trans ?_ hz) hR2 (fun R' h4 => ?_)
      · have := SEq.append (SEq.append (SEq.refl pre) (isort_seq ht (B1 ++ B2))) (SEq.refl R2)
        simpa using this
      · have := hP (isort le (B1 ++ B2) ++ R') (.more hil (isort_srt ht _) h4)
        simpa using this
    · by_cases h2 : a + s < n
      · obtain ⟨B1, R1, rfl, hB1, sB1, hR1⟩ := hB.split (by omega)
        simp at hl2
        have sR1 := hR1.srt (by omega)
        refine Ev.step (f := fun k => (f k (pre ++ (B1 ++ R1)) a (a + s) n).bind fun t => t1 k t n ((s : Int) * 2)) (fun k => by
          rw [hT.e2, if_neg h1, wr_ (a + s) (by omega) (by omega), if_pos h2, wr_ ((s : Int) * 2) (by omega) (by omega)]) ?_
        have h3 := sy_f ht hcmp hS hR hF (B1.length + R1.length) B1 R1 pre [] a (a + s) n (Nat.le_refl _) (by omega) (by omega) ha (by omega) (by omega) (by simp; omega) sB1 sR1
        refine Ev.bind (a := pre ++ isort le (B1 ++ R1)) (by simpa using h3) ?_
        refine hk _ (by simp [isort_len]; omega) (SEq.trans ?_ hz) (hP _ (.last (by rw [isort_len]; simp; omega) (isort_srt ht _)))
        exact SEq.append (SEq.refl pre) (isort_seq ht (B1 ++ R1))
      · refine Ev.step (f := fun k => t1 k (pre ++ R) n ((s : Int) * 2)) (fun k => by
          rw [hT.e2, if_neg h1, wr_ (a + s) (by omega) (by omega), if_neg h2, wr_ ((s : Int) * 2) (by omega) (by omega)]) ?_
        exact hk _ hl hz (hP R (.last (by omega) (hB.srt (by omega))))
theorem stl_l1 (ht : TP le) (hcmp : Cmp le cmp) (hS : SwF d s0) (hR : RoF s0 r0) (hF : SyF d cmp r0 l0 l1 l2 l3 j4 l4 j6 j7 j8 f) (hT : StF i0 f t0 t1 t2) {n : Nat} (hn : n < 1099511627776) {zs : List α} : ∀ (c s : Nat) (ys : List α), 0 < s → s < 1099511627776 * 2 → n - s ≤ c → ys.length = n → SEq le ys zs → Blk le s ys →
    Ev (fun k => t1 k ys n (s : Int)) (isort le zs) := by
  intro c
  induction c with
  | zero =>
    intro s ys h0 h1 h2 h3 h4 h5
    refine Ev.step (f := fun _ => some (isort le zs)) (fun k => ?_) (Ev.now _)
    rw [hT.e1, if_neg (by omega), isort_eq ht (h5.srt (by omega)) h4]
  | succ c ih =>
    intro s ys h0 h1 h2 h3 h4 h5
    by_cases h6 : s < n
    · refine Ev.step (f := fun k => t2 k ys n s 0 (2 * s)) (fun k => by rw [hT.e1, if_pos (by omega), wr_ (2 * (s : Int)) (by omega) (by omega)]) ?_
      have := stl_l2 ht hcmp hS hR hF hT (n := n) (s := s) h0 hn (by omega) (r := isort le zs) (zs := zs) (fun ys' g1 g2 g3 => ?_) ys.length [] ys 0 (2 * s) (Nat.le_refl _) (by simp) (by omega) (by simpa using h3) (by simpa using h4) h5 (fun R' h => by simpa using h)
      · simpa using this
      · have := ih (2 * s) ys' (by omega) (by omega) (by omega) g1 g2 g3
        rw [show ((s : Int) * 2) = ((2 * s : Nat) : Int) by omega]
        exact this
    · refine Ev.step (f := fun _ => some (isort le zs)) (fun k => ?_) (Ev.now _)
      rw [hT.e1, if_neg (by omega), isort_eq ht (h5.srt (by omega)) h4]
theorem stl_l0 (ht : TP le) (hcmp : Cmp le cmp) (hI : InsF d cmp i0 i1) (hT : StF i0 f t0 t1 t2) {n s : Nat} (hs : 0 < s) (hn : n < 1099511627776) (hs2 : s < 1099511627776) {r : List α} {zs : List α}
    (hk : ∀ ys : List α, ys.length = n → SEq le ys zs → Blk le s ys → Ev (fun k => t1 k ys n s) r) : ∀ (c : Nat) (pre R : List α) (a b : Int), R.length ≤ c → a = pre.length → b = a + s → (pre ++ R).length = n → SEq le (pre ++ R) zs →
      (∀ R', Blk le s R' → Blk le s (pre ++ R')) → Ev (fun k => t0 k (pre ++ R) n s a b) r := by
  intro c
  induction c with
  | zero =>
    intro pre R a b hc ha hb hl hz hP
    have hR0 : R = [] := eq_of_len0 (by omega)
    subst hR0
    simp at hl
    refine Ev.step (f := fun k => (i0 k (pre ++ []) a n (wrap64 (a + 1))).bind fun t => t1 k t n s) (fun k => by rw [hT.e0, if_neg (by omega)]) ?_
    have h3 := ins_f ht hcmp hI (pre := pre) (S := []) (post := []) (a := a) (b := n) ha (by simp; omega) (by simp; omega)
    refine Ev.bind (a := pre ++ []) (by simpa [isort] using h3) (hk _ (by simpa using hl) hz (hP [] (.last (by simp) .nil)))
  | succ c ih =>
    intro pre R a b hc ha hb hl hz hP
    have hl2 : pre.length + R.length = n := by simpa using hl
    by_cases h1 : b ≤ n
    · obtain ⟨B, R2, rfl, hB⟩ : ∃ B R2, R = B ++ R2 ∧ B.length = s := ⟨R.take s, R.drop s, (List.take_append_drop _ _).symm, by rw [List.length_take]; omega⟩
      simp at hl2 hc
      refine Ev.step (f := fun k => (i0 k (pre ++ (B ++ R2)) a b (wrap64 (a + 1))).bind fun t => t0 k t n s b (b + s)) (fun k => by rw [hT.e0, if_pos h1, wr_ (b + s) (by omega) (by omega)]) ?_
      have h3 := ins_f ht hcmp hI (pre := pre) (S := B) (post := R2) (a := a) (b := b) ha (by omega) (by simp; omega)
      refine Ev.bind (a := pre ++ isort le B ++ R2) (by simpa using h3) ?_
      have hil : (isort le B).length = s := by rw [isort_len]; omega
      refine ih (pre ++ isort le B) R2 b (b + s) (by omega) (by simp; omega) rfl (by simp; omega) (SEq.trans ?_ hz) (fun R' h4 => ?_)
      · have := SEq.append (SEq.append (SEq.refl pre) (isort_seq ht B)) (SEq.refl R2)
        simpa using this
      · have := hP (isort le B ++ R') (.more hil (isort_srt ht _) h4)
        simpa using this
    · refine Ev.step (f := fun k => (i0 k (pre ++ R) a n (wrap64 (a + 1))).bind fun t => t1 k t n s) (fun k => by rw [hT.e0, if_neg h1]) ?_
      have h3 := ins_f ht hcmp hI (pre := pre) (S := R) (post := []) (a := a) (b := n) ha (by omega) (by simp; omega)
      refine Ev.bind (a := pre ++ isort le R) (by simpa using h3) ?_
      refine hk _ (by simp [isort_len]; omega) (SEq.trans ?_ hz) (hP _ (.last (by rw [isort_len]; omega) (isort_srt ht _)))
      exact SEq.append (SEq.refl pre) (isort_seq ht R)
theorem stl_f (ht : TP le) (hcmp : Cmp le cmp) (hI : InsF d cmp i0 i1) (hS : SwF d s0) (hR : RoF s0 r0) (hF : SyF d cmp r0 l0 l1 l2 l3 j4 l4 j6 j7 j8 f) (hT : StF i0 f t0 t1 t2) (xs : List α) (hl : xs.length < 1099511627776) : Ev (fun k => t0 k xs (xs.length : Int) 20 0 20) (isort le xs) := by
  have := stl_l0 ht hcmp hI hT (n := xs.length) (s := 20) (by omega) hl (by omega) (r := isort le xs) (zs := xs) (fun ys g1 g2 g3 => stl_l1 ht hcmp hS hR hF hT hl xs.length 20 ys (by omega) (by omega) (by omega) g1 g2 g3) xs.length [] xs 0 20 (Nat.le_refl _) (by simp) (by omega) (by simp) (SEq.refl _) (fun R' h => by simpa using h)
  simpa using this
end SortE

theorem sortI_int__order_Order_1 (al : List S32) : InsF (0 : Int) (cmpA al) (@slices_insertionSortCmpFunc_int__order_Order_1.l0 (CT al)) (@slices_insertionSortCmpFunc_int__order_Order_1.l1 (CT al)) := ⟨by intros; simp only [slices_insertionSortCmpFunc_int__order_Order_1.l0], by intros; simp only [slices_insertionSortCmpFunc_int__order_Order_1.l1]; simp only [cmpT]; rfl⟩
theorem sortW_int__order_Order_1 (al : List S32) : SwF (0 : Int) (@slices_swapRangeCmpFunc_int__order_Order_1.l0 (CT al)) := ⟨by intros; simp only [slices_swapRangeCmpFunc_int__order_Order_1.l0]; rfl⟩
theorem sortR_int__order_Order_1 (al : List S32) : RoF (@slices_swapRangeCmpFunc_int__order_Order_1.l0 (CT al)) (@slices_rotateCmpFunc_int__order_Order_1.l0 (CT al)) := ⟨by intros; simp only [slices_rotateCmpFunc_int__order_Order_1.l0, slices_swapRangeCmpFunc_int__order_Order_1.f]⟩
theorem sortY_int__order_Order_1 (al : List S32) : SyF (0 : Int) (cmpA al) (@slices_rotateCmpFunc_int__order_Order_1.l0 (CT al)) (@slices_symMergeCmpFunc_int__order_Order_1.l0 (CT al)) (@slices_symMergeCmpFunc_int__order_Order_1.l1 (CT al)) (@slices_symMergeCmpFunc_int__order_Order_1.l2 (CT al)) (@slices_symMergeCmpFunc_int__order_Order_1.l3 (CT al)) (@slices_symMergeCmpFunc_int__order_Order_1.j4 (CT al)) (@slices_symMergeCmpFunc_int__order_Order_1.l4 (CT al)) (@slices_symMergeCmpFunc_int__order_Order_1.j6 (CT al)) (@slices_symMergeCmpFunc_int__order_Order_1.j7 (CT al)) (@slices_symMergeCmpFunc_int__order_Order_1.j8 (CT al)) (@slices_symMergeCmpFunc_int__order_Order_1.f (CT al)) where
  ef := by intros; simp only [slices_symMergeCmpFunc_int__order_Order_1.f]
  e0 := by intros; simp only [slices_symMergeCmpFunc_int__order_Order_1.l0]; simp only [cmpT]; rfl
  e1 := by intros; simp only [slices_symMergeCmpFunc_int__order_Order_1.l1]; rfl
  e2 := by intros; simp only [slices_symMergeCmpFunc_int__order_Order_1.l2]; simp only [cmpT]; rfl
  e3 := by intros; simp only [slices_symMergeCmpFunc_int__order_Order_1.l3]; rfl
  ej4 := by intros; simp only [slices_symMergeCmpFunc_int__order_Order_1.j4]
  e4 := by intros; simp only [slices_symMergeCmpFunc_int__order_Order_1.l4]; simp only [cmpT]; rfl
  ej6 := by intros; simp only [slices_symMergeCmpFunc_int__order_Order_1.j6, slices_rotateCmpFunc_int__order_Order_1.f]
  ej7 := by intros; simp only [slices_symMergeCmpFunc_int__order_Order_1.j7]
  ej8 := by intros; simp only [slices_symMergeCmpFunc_int__order_Order_1.j8]
theorem sortB_int__order_Order_1 (al : List S32) : StF (@slices_insertionSortCmpFunc_int__order_Order_1.l0 (CT al)) (@slices_symMergeCmpFunc_int__order_Order_1.f (CT al)) (@slices_stableCmpFunc_int__order_Order_1.l0 (CT al)) (@slices_stableCmpFunc_int__order_Order_1.l1 (CT al)) (@slices_stableCmpFunc_int__order_Order_1.l2 (CT al)) := ⟨by intros; simp only [slices_stableCmpFunc_int__order_Order_1.l0, slices_insertionSortCmpFunc_int__order_Order_1.f], by intros; simp only [slices_stableCmpFunc_int__order_Order_1.l1], by intros; simp only [slices_stableCmpFunc_int__order_Order_1.l2]⟩
theorem SORT_int__order_Order_1 (al : List S32) {le : Int → Int → Bool} (ht : TP le) (hc : Cmp le (cmpA al)) (xs : List Int) (hl : xs.length < 1099511627776) : Ev (fun k => (@slices_SortStableFunc_int__order_Order_1.f (CT al)) k xs) (isort le xs) := by
  have h := stl_f ht hc (sortI_int__order_Order_1 al) (sortW_int__order_Order_1 al) (sortR_int__order_Order_1 al) (sortY_int__order_Order_1 al) (sortB_int__order_Order_1 al) xs hl
  have e : ∀ k, (@slices_SortStableFunc_int__order_Order_1.f (CT al)) k xs = ((@slices_stableCmpFunc_int__order_Order_1.l0 (CT al)) k xs (xs.length : Int) 20 0 20) := fun k => by
    unfold slices_SortStableFunc_int__order_Order_1.f slices_stableCmpFunc_int__order_Order_1.f
    cases (@slices_stableCmpFunc_int__order_Order_1.l0 (CT al)) k xs (xs.length : Int) 20 0 20 <;> rfl
  exact Ev.congr e h

def leJ (al : List S32) (a b : Int) : Bool := decide ((rd_T32 al a).f5 > (rd_T32 al b).f5) || (decide ((rd_T32 al a).f5 = (rd_T32 al b).f5) && decide ((rd_T32 al a).f0 ≤ (rd_T32 al b).f0))
theorem tpJ (al : List S32) : TP (leJ al) := by
  constructor
  · intro a b; unfold leJ; simp only [Bool.or_eq_true, Bool.and_eq_true, decide_eq_true_eq]; omega
  · intro a b c; unfold leJ; simp only [Bool.or_eq_true, Bool.and_eq_true, decide_eq_true_eq]; omega
theorem cmpc (x y : Int) : cmp_Compare_int.f x y = some (if x < y then -1 else if x > y then 1 else 0) := by
  unfold cmp_Compare_int.f cmp_isNaN_int.f
  simp only [Option.bind_some]
  first | (split <;> (try split) <;> simp_all; done) | (simp; split <;> (try split) <;> rfl)
theorem orc (x y : Int) : cmp_Or_int.f 10 [x, y] = some (if x = 0 then y else x) := by
  have e1 : wrap64 (0 + 1) = 1 := by decide +kernel
  have e2 : wrap64 (1 + 1) = 2 := by decide +kernel
  unfold cmp_Or_int.f
  rw [cmp_Or_int.l0.eq_2, if_pos (by simp), if_pos (by omega), if_pos (by simp)]
  rw [show rd [x, y] 0 = x from rfl]
  by_cases hx : x = 0
  · rw [if_pos hx, if_pos hx, e1, cmp_Or_int.l0.eq_2, if_pos (by simp), if_pos (by omega), if_pos (by simp)]
    rw [show rd [x, y] 1 = y from rfl]
    by_cases hy : y = 0
    · rw [if_pos hy, e2, cmp_Or_int.l0.eq_2, if_neg (by simp), hy]
    · rw [if_neg hy]
  · rw [if_neg hx, if_neg hx]
theorem cmpJ (al : List S32) : Cmp (leJ al) (cmpA al) := by
  intro a b
  refine ⟨_, by unfold cmpA; rw [cmpc, cmpc]; exact orc _ _, ?_⟩
  unfold leJ
  rw [Bool.eq_false_iff]
  simp only [ne_eq, Bool.or_eq_true, Bool.and_eq_true, decide_eq_true_eq]
  repeat' split
  all_goals omega

end Go.Proofs.Ytkhfgflcanmefaa.Pure
end
section
set_option linter.unusedVariables false
set_option linter.unusedSimpArgs false
namespace Go.Proofs.Ytkhfgflcanmefaa.Pure
open Go Go.RowKit Go.Proofs.Ytkhfgflcanmefaa.PAll Go.Proofs.YtkhfgflcanmefaaW.PrintWords Go.Proofs.YtkhfgflcanmefaaW.PrintLast

def qs (al : List S32) : Nat → Nat → List Int
  | 0, _ => []
  | d + 1, i => if (rd_T32 al (i : Int)).f7 = 1 then (i : Int) :: qs al d (i + 1) else qs al d (i + 1)
theorem sort_ev (al : List S32) (xs : List Int) (h : InRs al xs) (hl : xs.length < 1099511627776) : Ev (fun k => order_Order.sort al k xs) (isort (leJ al) xs) := by
  have h1 := SORT_int__order_Order_1 al (tpJ al) (cmpJ al) xs hl
  have e : ∀ k, order_Order.sort al k xs = @slices_SortStableFunc_int__order_Order_1.f (CT al) k xs := fun k => (rel_sort k xs h).1
  exact Ev.congr e h1
theorem order_l0 (al : List S32) (hl : al.length ≤ 1000000) : ∀ (d i : Nat) (acc : List Int), i + d = al.length → acc.length ≤ i → InRs al acc → Ev (fun k => order_Order.l0 k acc al (al.length : Int) (i : Int)) (isort (leJ al) (acc ++ qs al d i))
  | 0, i, acc, h, ha, hr => by
    obtain ⟨K, hK⟩ := sort_ev al acc hr (by omega)
    refine ⟨K + 1, fun k hk => ?_⟩
    obtain ⟨k, rfl⟩ : ∃ k', k = k' + 1 := ⟨k - 1, by omega⟩
    have hk2 : order_Order.sort al k acc = some _ := hK k (by omega)
    show order_Order.l0 (k + 1) acc al (al.length : Int) (i : Int) = _
    rw [order_Order.l0.eq_2, if_neg (by omega), hk2]
    simp [slices_Clip_int.f, qs]
  | d + 1, i, acc, h, ha, hr => by
    have ew : wrap64 ((i : Int) + 1) = ((i + 1 : Nat) : Int) := by unfold wrap64; omega
    have hin : InR al (i : Int) := ⟨by omega, by omega⟩
    by_cases c : (rd_T32 al (i : Int)).f7 = 1
    · have hr2 : InRs al (acc ++ [(i : Int)]) := fun x hx => by
        rcases List.mem_append.mp hx with hx | hx
        · exact hr x hx
        · rw [List.mem_singleton.mp hx]; exact hin
      obtain ⟨K, hK⟩ := order_l0 al hl d (i + 1) (acc ++ [(i : Int)]) (by omega) (by simp; omega) hr2
      refine ⟨K + 1, fun k hk => ?_⟩
      obtain ⟨k, rfl⟩ : ∃ k', k = k' + 1 := ⟨k - 1, by omega⟩
      have hk2 : order_Order.l0 k _ al (al.length : Int) ((i + 1 : Nat) : Int) = some _ := hK k (by omega)
      show order_Order.l0 (k + 1) acc al (al.length : Int) (i : Int) = _
      rw [order_Order.l0.eq_2, if_pos (by omega), if_pos (by omega), if_pos (by omega), if_pos c, if_pos (by omega), ew, hk2]
      simp only [qs, if_pos c, List.append_assoc, List.singleton_append]
    · obtain ⟨K, hK⟩ := order_l0 al hl d (i + 1) acc (by omega) (by omega) hr
      refine ⟨K + 1, fun k hk => ?_⟩
      obtain ⟨k, rfl⟩ : ∃ k', k = k' + 1 := ⟨k - 1, by omega⟩
      have hk2 : order_Order.l0 k _ al (al.length : Int) ((i + 1 : Nat) : Int) = some _ := hK k (by omega)
      show order_Order.l0 (k + 1) acc al (al.length : Int) (i : Int) = _
      rw [order_Order.l0.eq_2, if_pos (by omega), if_pos (by omega), if_pos (by omega), if_neg c, ew, hk2]
      simp only [qs, if_neg c]
theorem order_ev (al : List S32) (hl : al.length ≤ 1000000) : Ev (fun k => order_Order.f k al) (isort (leJ al) (qs al al.length 0)) := order_l0 al hl al.length 0 [] (by omega) (Nat.le_refl _) (fun _ h => by cases h)
theorem qs_mem (al : List S32) : ∀ (d i : Nat) (x : Int), x ∈ qs al d i → (i : Int) ≤ x ∧ x < ((i + d : Nat) : Int) ∧ (rd_T32 al x).f7 = 1
  | 0, i, x, h => by cases h
  | d + 1, i, x, h => by
    unfold qs at h
    split at h
    · rename_i c
      rcases List.mem_cons.mp h with rfl | h
      · exact ⟨Int.le_refl _, by omega, c⟩
      · have := qs_mem al d (i + 1) x h; exact ⟨by omega, by omega, this.2.2⟩
    · have := qs_mem al d (i + 1) x h; exact ⟨by omega, by omega, this.2.2⟩
theorem qs_nodup (al : List S32) : ∀ (d i : Nat), (qs al d i).Nodup
  | 0, i => List.nodup_nil
  | d + 1, i => by
    unfold qs
    split
    · refine List.nodup_cons.mpr ⟨fun h => ?_, qs_nodup al d (i + 1)⟩
      have := (qs_mem al d (i + 1) _ h).1; omega
    · exact qs_nodup al d (i + 1)

end Go.Proofs.Ytkhfgflcanmefaa.Pure
end
section
set_option linter.unusedVariables false
set_option linter.unusedSimpArgs false
namespace Go.Proofs.Ytkhfgflcanmefaa.Pure
open Go Go.RowKit Go.Proofs.Ytkhfgflcanmefaa.PAll Go.Proofs.YtkhfgflcanmefaaW.PrintWords Go.Proofs.YtkhfgflcanmefaaW.PrintLast

theorem awake_ev : Ev (fun k => prebendlaw15_awake.f k) true := by
  refine ⟨200, fun k hk => ?_⟩
  have h : prebendlaw15_awake.f 200 = some true := by decide +kernel
  obtain ⟨d, rfl⟩ : ∃ d, k = 200 + d := ⟨k - 200, by omega⟩
  induction d with
  | zero => exact h
  | succ d ih => exact prebendlaw15_awake.mono _ _ (ih (by omega))
structure Good (al : List S32) (o : List Int) : Prop where
  len : o.length ≤ 40
  mem : ∀ x ∈ o, 0 ≤ x ∧ x < (al.length : Int) ∧ (rd_T32 al x).f7 = 1
  ne : ∀ i j : Nat, i < j → j < o.length → rd o i ≠ rd o j
  srt : ∀ i j : Nat, i < j → j < o.length → leJ al (rd o i) (rd o j) = true
theorem good_order (al : List S32) (hl : al.length ≤ 40) : Good al (isort (leJ al) (qs al al.length 0)) := by
  have hp := isort_perm (le := leJ al) (qs al al.length 0)
  have hs := isort_srt (tpJ al) (qs al al.length 0)
  have hn := hp.nodup_iff.mpr (qs_nodup al al.length 0)
  have hm : ∀ x ∈ isort (leJ al) (qs al al.length 0), 0 ≤ x ∧ x < (al.length : Int) ∧ (rd_T32 al x).f7 = 1 := fun x hx => by
    have := qs_mem al al.length 0 x (hp.mem_iff.mp hx)
    exact ⟨by omega, by omega, this.2.2⟩
  have ql : ∀ d i, (qs al d i).length ≤ d := fun d => by
    induction d with
    | zero => intro i; simp [qs]
    | succ d ih => intro i; unfold qs; split
                   · have := ih (i + 1); simp; omega
                   · have := ih (i + 1); omega
  have hlen : (isort (leJ al) (qs al al.length 0)).length ≤ 40 := by rw [isort_len]; have := ql al.length 0; omega
  generalize isort (leJ al) (qs al al.length 0) = o at *
  have e : ∀ i : Nat, (h : i < o.length) → rd o (i : Int) = o[i] := fun i h => by simp [rd, List.getD_eq_getElem?_getD, h]
  refine ⟨hlen, hm, fun i j hij hj => ?_, fun i j hij hj => ?_⟩
  · rw [e i (by omega), e j hj]
    intro he
    have := (List.getElem_inj hn).mp he
    omega
  · rw [e i (by omega), e j hj]
    exact List.pairwise_iff_getElem.mp hs i j (by omega) hj hij
theorem few_ev (l0 : List S32) : ∃ al, prebendlaw15_few.f l0 = some al ∧ al.length ≤ 40 := by
  unfold prebendlaw15_few.f
  by_cases c : (l0.length : Int) > 40
  · rw [if_pos c, if_pos (by omega)]; exact ⟨_, rfl, by simp; omega⟩
  · rw [if_neg c]; exact ⟨_, rfl, by omega⟩

end Go.Proofs.Ytkhfgflcanmefaa.Pure
end
section
set_option linter.unusedVariables false
set_option linter.unusedSimpArgs false
namespace Go.Proofs.Ytkhfgflcanmefaa.Pure
open Go Go.RowKit Go.Proofs.Ytkhfgflcanmefaa.PAll Go.Proofs.YtkhfgflcanmefaaW.PrintWords Go.Proofs.YtkhfgflcanmefaaW.PrintLast

theorem ahead_ev (al : List S32) (n y : Int) (hy : 0 ≤ y) (hn : y < n) (hl : n < (al.length : Int)) : prebendref15_ahead.f al n y = some (!leJ al y n) := by
  unfold prebendref15_ahead.f leJ
  rw [if_pos (by omega), if_pos (by omega), if_pos (by omega), if_pos (by omega)]
  generalize (rd_T32 al n).f5 = p
  generalize (rd_T32 al y).f5 = q
  generalize (rd_T32 al n).f0 = u
  generalize (rd_T32 al y).f0 = v
  by_cases c : p = q
  · rw [if_pos c]
    by_cases c2 : u = v
    · rw [if_pos c2, decide_eq_false (show ¬ n < y by omega), decide_eq_false (show ¬ q > p by omega), decide_eq_true (show q = p by omega), decide_eq_true (show v ≤ u by omega)]; rfl
    · rw [if_neg c2, decide_eq_false (show ¬ q > p by omega), decide_eq_true (show q = p by omega)]
      by_cases c3 : u < v
      · rw [decide_eq_true c3, decide_eq_false (show ¬ v ≤ u by omega)]; rfl
      · rw [decide_eq_false c3, decide_eq_true (show v ≤ u by omega)]; rfl
  · rw [if_neg c, decide_eq_false (show ¬ q = p by omega)]
    by_cases c3 : p > q
    · rw [decide_eq_true c3, decide_eq_false (show ¬ q > p by omega)]; rfl
    · rw [decide_eq_false c3, decide_eq_true (show q > p by omega)]; rfl
theorem ref_l1 (al : List S32) (hl : al.length ≤ 1000000) (acc : List Int) (n : Nat) (hn : n < al.length) (hr : ∀ x ∈ acc, 0 ≤ x ∧ x < (n : Int)) (hlen : acc.length ≤ n) (hs : Srt (leJ al) acc) {res : List Int}
    (R : ∀ A B, acc = A ++ B → (∀ b ∈ B, leJ al b n = false) → (∀ a ∈ A, leJ al a n = true) → Ev (fun k => prebendref15_Order.l0 k al (A ++ (n : Int) :: B) ((n + 1 : Nat) : Int)) res) :
    ∀ (i : Nat), i ≤ acc.length → (∀ b ∈ acc.drop i, leJ al b n = false) → Ev (fun k => prebendref15_Order.l1 k al acc (n : Int) (i : Int)) res := by
  have ew : wrap64 ((n : Int) + 1) = ((n + 1 : Nat) : Int) := by unfold wrap64; omega
  have fin : ∀ i : Nat, i ≤ acc.length → (∀ b ∈ acc.drop i, leJ al b n = false) → (∀ a ∈ acc.take i, leJ al a n = true) → Ev (fun k => ((some (([] : List Int) : List Int)).bind fun y112 => (if 0 ≤ (i : Int) then (if (i : Int) ≤ (acc.length : Int) then ((some (acc.take (i : Int).toNat : List Int)).bind fun y115 => (if y112.length + y115.length < 17592186044416 then ((some (y112 ++ y115 : List Int)).bind fun y119 => ((some (([(n : Int)] : List Int) : List Int)).bind fun y122 => (if y119.length + y122.length < 17592186044416 then ((some (y119 ++ y122 : List Int)).bind fun y125 => ((some (acc.drop (i : Int).toNat : List Int)).bind fun y128 => (if y125.length + y128.length < 17592186044416 then (prebendref15_Order.l0 k al (y125 ++ y128) (wrap64 ((n : Int) + 1))) else (none)))) else (none)))) else (none))) else (none)) else (none))) : Nat → Option (List Int)) res := by
    intro i hi hb ha
    obtain ⟨K, hK⟩ := R (acc.take i) (acc.drop i) (List.take_append_drop i acc).symm hb ha
    have l1 : (acc.take i).length = i := by simp; omega
    have l2 : (acc.drop i).length = acc.length - i := by simp
    have g1 : ([] : List Int).length + (acc.take i).length < 17592186044416 := by rw [l1]; simp; omega
    have g2 : (acc.take i).length + ([(n : Int)] : List Int).length < 17592186044416 := by rw [l1]; simp; omega
    have g3 : (acc.take i ++ [(n : Int)]).length + (acc.drop i).length < 17592186044416 := by rw [List.length_append, l1, l2]; simp; omega
    refine ⟨K, fun k hk => ?_⟩
    have hk2 : prebendref15_Order.l0 k al (acc.take i ++ (n : Int) :: acc.drop i) ((n + 1 : Nat) : Int) = some res := hK k hk
    show (some (([] : List Int) : List Int)).bind _ = some res
    rw [Option.bind_some, if_pos (by omega), if_pos (by omega), Int.toNat_natCast, Option.bind_some, if_pos g1, Option.bind_some, List.nil_append, Option.bind_some, if_pos g2, Option.bind_some, Option.bind_some, if_pos g3, ew, List.append_assoc, List.singleton_append, hk2]
  intro i
  induction i with
  | zero =>
    intro hi hb
    obtain ⟨K, hK⟩ := fin 0 hi hb (by simp)
    refine ⟨K + 1, fun k hk => ?_⟩
    obtain ⟨k, rfl⟩ : ∃ k', k = k' + 1 := ⟨k - 1, by omega⟩
    show prebendref15_Order.l1 (k + 1) al acc (n : Int) ((0 : Nat) : Int) = some res
    rw [prebendref15_Order.l1.eq_2, if_neg (by omega)]
    exact hK k (by omega)
  | succ i ih =>
    intro hi hb
    have hio : i < acc.length := by omega
    have e1 : wrap64 (((i + 1 : Nat) : Int) - 1) = (i : Int) := by unfold wrap64; omega
    have er : rd acc (i : Int) = acc[i] := by simp [rd, List.getD_eq_getElem?_getD, hio]
    have m := hr _ (List.getElem_mem hio)
    have ea := ahead_ev al (n : Int) acc[i] m.1 m.2 (by omega)
    cases c : leJ al acc[i] (n : Int) with
    | false =>
      have hb2 : ∀ b ∈ acc.drop i, leJ al b n = false := by
        intro b h
        rw [List.drop_eq_getElem_cons hio] at h
        rcases List.mem_cons.mp h with rfl | h
        · exact c
        · exact hb b h
      obtain ⟨K, hK⟩ := ih (by omega) hb2
      refine ⟨K + 1, fun k hk => ?_⟩
      obtain ⟨k, rfl⟩ : ∃ k', k = k' + 1 := ⟨k - 1, by omega⟩
      have hk2 : prebendref15_Order.l1 k al acc (n : Int) (i : Int) = some res := hK k (by omega)
      show prebendref15_Order.l1 (k + 1) al acc (n : Int) ((i + 1 : Nat) : Int) = some res
      rw [prebendref15_Order.l1.eq_2, if_pos (by omega), e1, if_pos (by omega), if_pos (by omega), er, ea, c, Option.bind_some, if_pos (show (!false) = true from rfl), hk2]
    | true =>
      have ha : ∀ a ∈ acc.take (i + 1), leJ al a n = true := by
        intro a h
        obtain ⟨j, hj, rfl⟩ := List.mem_iff_getElem.mp h
        have hj2 : j < i + 1 := by simp at hj; omega
        rw [List.getElem_take]
        by_cases cj : j = i
        · subst cj; exact c
        · exact (tpJ al).trans (List.pairwise_iff_getElem.mp hs j i (by omega) hio (by omega)) c
      obtain ⟨K, hK⟩ := fin (i + 1) hi hb ha
      refine ⟨K + 1, fun k hk => ?_⟩
      obtain ⟨k, rfl⟩ : ∃ k', k = k' + 1 := ⟨k - 1, by omega⟩
      show prebendref15_Order.l1 (k + 1) al acc (n : Int) ((i + 1 : Nat) : Int) = some res
      rw [prebendref15_Order.l1.eq_2, if_pos (by omega), e1, if_pos (by omega), if_pos (by omega), er, ea, c, Option.bind_some, if_neg (by decide)]
      exact hK k (by omega)
theorem ref_l0 (al : List S32) (hl : al.length ≤ 1000000) : ∀ (d i : Nat) (acc Q : List Int), i + d = al.length → acc.length ≤ i → (∀ x ∈ acc, 0 ≤ x ∧ x < (i : Int)) → Srt (leJ al) acc → SEq (leJ al) acc Q → Ev (fun k => prebendref15_Order.l0 k al acc (i : Int)) (isort (leJ al) (Q ++ qs al d i))
  | 0, i, acc, Q, h, ha, hr, hs, hq => by
    refine ⟨1, fun k hk => ?_⟩
    obtain ⟨k, rfl⟩ : ∃ k', k = k' + 1 := ⟨k - 1, by omega⟩
    show prebendref15_Order.l0 (k + 1) al acc (i : Int) = _
    rw [prebendref15_Order.l0.eq_2, if_neg (by omega), qs, List.append_nil, isort_eq (tpJ al) hs hq]
  | d + 1, i, acc, Q, h, ha, hr, hs, hq => by
    have ew : wrap64 ((i : Int) + 1) = ((i + 1 : Nat) : Int) := by unfold wrap64; omega
    by_cases c : (rd_T32 al (i : Int)).f7 = 1
    · have key : Ev (fun k => prebendref15_Order.l1 k al acc (i : Int) (acc.length : Int)) (isort (leJ al) ((Q ++ [(i : Int)]) ++ qs al d (i + 1))) := by
        refine ref_l1 al hl acc i (by omega) hr ha hs (fun A B e hB hA => ?_) acc.length (Nat.le_refl _) (by simp)
        subst e
        refine ref_l0 al hl d (i + 1) (A ++ (i : Int) :: B) (Q ++ [(i : Int)]) (by omega) (by simp at ha ⊢; omega) (fun x hx => ?_) ?_ ?_
        · rcases List.mem_append.mp hx with hx | hx
          · have := hr x (List.mem_append.mpr (.inl hx)); omega
          · rcases List.mem_cons.mp hx with rfl | hx
            · omega
            · have := hr x (List.mem_append.mpr (.inr hx)); omega
        · have hp := List.pairwise_append.mp hs
          refine List.pairwise_append.mpr ⟨hp.1, List.pairwise_cons.mpr ⟨fun b hb => (tpJ al).of_not (hB b hb), hp.2.1⟩, fun a ha2 b hb => ?_⟩
          rcases List.mem_cons.mp hb with rfl | hb
          · exact hA a ha2
          · exact hp.2.2 a ha2 b hb
        · have sw := SEq.swap (le := leJ al) (tpJ al) (A := B) (B := [(i : Int)]) (fun b hb n hn => by rw [List.mem_singleton.mp hn]; exact hB b hb)
          have s2 := SEq.append (SEq.refl A) sw.symm
          have s3 := SEq.append hq (SEq.refl [(i : Int)])
          rw [List.append_assoc] at s3
          exact s2.trans s3
      obtain ⟨K, hK⟩ := key
      refine ⟨K + 1, fun k hk => ?_⟩
      obtain ⟨k, rfl⟩ : ∃ k', k = k' + 1 := ⟨k - 1, by omega⟩
      have hk2 : prebendref15_Order.l1 k al acc (i : Int) (acc.length : Int) = some _ := hK k (by omega)
      show prebendref15_Order.l0 (k + 1) al acc (i : Int) = _
      rw [prebendref15_Order.l0.eq_2, if_pos (by omega), if_pos (by omega), if_pos c, hk2]
      simp only [qs, if_pos c, List.append_assoc, List.singleton_append]
    · obtain ⟨K, hK⟩ := ref_l0 al hl d (i + 1) acc Q (by omega) (by omega) (fun x hx => by have := hr x hx; omega) hs hq
      refine ⟨K + 1, fun k hk => ?_⟩
      obtain ⟨k, rfl⟩ : ∃ k', k = k' + 1 := ⟨k - 1, by omega⟩
      have hk2 : prebendref15_Order.l0 k al acc ((i + 1 : Nat) : Int) = some _ := hK k (by omega)
      show prebendref15_Order.l0 (k + 1) al acc (i : Int) = _
      rw [prebendref15_Order.l0.eq_2, if_pos (by omega), if_pos (by omega), if_neg c, ew, hk2]
      simp only [qs, if_neg c]
theorem ref_ev (al : List S32) (hl : al.length ≤ 1000000) : Ev (fun k => prebendref15_Order.f k al) (isort (leJ al) (qs al al.length 0)) :=
  ref_l0 al hl al.length 0 [] [] (by omega) (Nat.le_refl _) (fun _ h => by cases h) List.Pairwise.nil (SEq.refl _)
def askOf (al : List S32) (n : Int) : S29 := ⟨(rd_T32 al n).f2, (rd_T32 al n).f3⟩
theorem asks_l0 (al : List S32) (o : List Int) (g : Good al o) : ∀ (d i : Nat) (acc : List S29), i + d = o.length → acc.length = i → Ev (fun k => order_Asks.l0 k al acc o (o.length : Int) (i : Int)) (acc ++ (o.drop i).map (askOf al))
  | 0, i, acc, h, ha => by
    refine ⟨1, fun k hk => ?_⟩
    obtain ⟨k, rfl⟩ : ∃ k', k = k' + 1 := ⟨k - 1, by omega⟩
    show order_Asks.l0 (k + 1) al acc o (o.length : Int) (i : Int) = _
    rw [order_Asks.l0.eq_2, if_neg (by omega)]
    rw [show o.drop i = [] from List.drop_eq_nil_of_le (by omega)]
    simp [slices_Clip_Ask.f]
  | d + 1, i, acc, h, ha => by
    have hio : i < o.length := by omega
    have ew : wrap64 ((i : Int) + 1) = ((i + 1 : Nat) : Int) := by have := g.len; unfold wrap64; omega
    have er : rd o (i : Int) = o[i] := by simp [rd, List.getD_eq_getElem?_getD, hio]
    have m := g.mem _ (List.getElem_mem hio)
    obtain ⟨K, hK⟩ := asks_l0 al o g d (i + 1) (acc ++ [askOf al o[i]]) (by omega) (by simp; omega)
    have gl : acc.length < 8796093022208 := by have := g.len; omega
    refine ⟨K + 1, fun k hk => ?_⟩
    obtain ⟨k, rfl⟩ : ∃ k', k = k' + 1 := ⟨k - 1, by omega⟩
    have hk2 : order_Asks.l0 k al (acc ++ [(⟨(rd_T32 al o[i]).f2, (rd_T32 al o[i]).f3⟩ : S29)]) o (o.length : Int) ((i + 1 : Nat) : Int) = some _ := hK k (by omega)
    show order_Asks.l0 (k + 1) al acc o (o.length : Int) (i : Int) = _
    rw [order_Asks.l0.eq_2, if_pos (by omega), if_pos (by omega), if_pos (by omega), er, if_pos m.1, if_pos m.2.1, if_pos gl, ew, hk2, List.drop_eq_getElem_cons hio, List.map_cons, List.append_assoc, List.singleton_append]
theorem asks_ev (al : List S32) (hl : al.length ≤ 40) : Ev (fun k => order_Asks.f k al) ((isort (leJ al) (qs al al.length 0)).map (askOf al)) := by
  have g := good_order al hl
  obtain ⟨K, hK⟩ := order_ev al (by omega)
  obtain ⟨K2, hK2⟩ := asks_l0 al _ g _ 0 [] (by rw [Nat.zero_add]) rfl
  refine ⟨K + K2, fun k hk => ?_⟩
  have h1 : order_Order.f k al = some _ := hK k (by omega)
  have h2 := hK2 k (by omega)
  show order_Asks.f k al = _
  unfold order_Asks.f
  rw [h1, Option.bind_some]
  simpa using h2
theorem ints_l0 (xs : List Int) (hl : xs.length ≤ 1000) : ∀ (d i : Nat), i + d = xs.length → Ev (fun k => prebendref01_Ints.l0 k xs xs (i : Int)) true
  | 0, i, h => ⟨1, fun k hk => by
    obtain ⟨k, rfl⟩ : ∃ k', k = k' + 1 := ⟨k - 1, by omega⟩
    show prebendref01_Ints.l0 (k + 1) xs xs (i : Int) = some true
    rw [prebendref01_Ints.l0.eq_2, if_neg (by omega)]⟩
  | d + 1, i, h => by
    obtain ⟨K, hK⟩ := ints_l0 xs hl d (i + 1) (by omega)
    have ew : wrap64 ((i : Int) + 1) = ((i + 1 : Nat) : Int) := by unfold wrap64; omega
    refine ⟨K + 1, fun k hk => ?_⟩
    obtain ⟨k, rfl⟩ : ∃ k', k = k' + 1 := ⟨k - 1, by omega⟩
    have hk2 : prebendref01_Ints.l0 k xs xs ((i + 1 : Nat) : Int) = some true := hK k (by omega)
    show prebendref01_Ints.l0 (k + 1) xs xs (i : Int) = some true
    rw [prebendref01_Ints.l0.eq_2, if_pos (by omega), if_pos (by omega), if_pos (by omega), if_pos rfl, ew, hk2]
theorem ints_ev (xs : List Int) (hl : xs.length ≤ 1000) : Ev (fun k => prebendref01_Ints.f k xs xs) true := by
  obtain ⟨K, hK⟩ := ints_l0 xs hl xs.length 0 (by omega)
  refine ⟨K, fun k hk => ?_⟩
  show prebendref01_Ints.f k xs xs = some true
  unfold prebendref01_Ints.f
  rw [if_pos rfl]
  exact hK k hk
theorem queues_l0 (al : List S32) (o : List Int) (g : Good al o) (O : Ev (fun k => order_Order.f k al) o) : ∀ (d i : Nat), i + d = o.length → Ev (fun k => prebendlaw15_OrderQueues.l0 k al o (o.map (askOf al)) (i : Int)) true
  | 0, i, h => by
    obtain ⟨K, hK⟩ := O
    obtain ⟨K2, hK2⟩ := awake_ev
    obtain ⟨K3, hK3⟩ := ints_ev o (by have := g.len; omega)
    refine ⟨K + K2 + K3 + 1, fun k hk => ?_⟩
    obtain ⟨k, rfl⟩ : ∃ k', k = k' + 1 := ⟨k - 1, by omega⟩
    have h1 : order_Order.f k al = some o := hK k (by omega)
    have h2 : prebendlaw15_awake.f k = some true := hK2 k (by omega)
    have h3 : prebendref01_Ints.f k o o = some true := hK3 k (by omega)
    show prebendlaw15_OrderQueues.l0 (k + 1) al o (o.map (askOf al)) (i : Int) = some true
    rw [prebendlaw15_OrderQueues.l0.eq_2, if_neg (by rw [List.length_map]; omega), h2, Option.bind_some, if_pos rfl, h1, Option.bind_some, h3]
    rfl
  | d + 1, i, h => by
    have hio : i < o.length := by omega
    have ew : wrap64 ((i : Int) + 1) = ((i + 1 : Nat) : Int) := by have := g.len; unfold wrap64; omega
    have er : rd o (i : Int) = o[i] := by simp [rd, List.getD_eq_getElem?_getD, hio]
    have ea : rd_T29 (o.map (askOf al)) (i : Int) = askOf al o[i] := by simp [rd_T29, List.getD_eq_getElem?_getD, hio]
    have m := g.mem _ (List.getElem_mem hio)
    obtain ⟨K, hK⟩ := queues_l0 al o g O d (i + 1) (by omega)
    refine ⟨K + 1, fun k hk => ?_⟩
    obtain ⟨k, rfl⟩ : ∃ k', k = k' + 1 := ⟨k - 1, by omega⟩
    have hk2 : prebendlaw15_OrderQueues.l0 k al o (o.map (askOf al)) ((i + 1 : Nat) : Int) = some true := hK k (by omega)
    show prebendlaw15_OrderQueues.l0 (k + 1) al o (o.map (askOf al)) (i : Int) = some true
    rw [prebendlaw15_OrderQueues.l0.eq_2, if_pos (by rw [List.length_map]; omega), if_pos (by omega), if_pos (by omega), er, if_pos m.1, if_pos m.2.1, ea, if_pos (show (askOf al o[i]).f0 = (rd_T32 al o[i]).f2 from rfl), if_pos (show (askOf al o[i]).f1 = (rd_T32 al o[i]).f3 from rfl), ew, hk2]
theorem OrderQueues : prebendlaw15_OrderQueues.Pure := by
  intro l0 _
  obtain ⟨al, hf, hl⟩ := few_ev l0
  have O := order_ev al (by omega)
  have g := good_order al hl
  obtain ⟨K1, hK1⟩ := ref_ev al (by omega)
  obtain ⟨K2, hK2⟩ := asks_ev al hl
  generalize isort (leJ al) (qs al al.length 0) = o at *
  obtain ⟨K3, hK3⟩ := queues_l0 al o g O o.length 0 (by omega)
  refine ⟨K1 + K2 + K3, ?_⟩
  have h1 : prebendref15_Order.f (K1 + K2 + K3) al = some o := hK1 _ (by omega)
  have h2 : order_Asks.f (K1 + K2 + K3) al = some (o.map (askOf al)) := hK2 _ (by omega)
  have h3 := hK3 (K1 + K2 + K3) (by omega)
  unfold prebendlaw15_OrderQueues.f
  rw [hf, Option.bind_some, h1, Option.bind_some, h2, Option.bind_some, if_pos (by rw [List.length_map])]
  exact h3

end Go.Proofs.Ytkhfgflcanmefaa.Pure
end
section
namespace Go.Proofs.Ytkhfgflcanmefaa.Rd
open Go.ChangeShapes Go.WideShapes Go.Deep Go.RowKit Go.Proofs.YtkhfgflcanmefaaW.PrintWords
set_option linter.unusedVariables false
def Rds {α : Type} (P : Program) (d : Kd α) (T : TypeId) (good : α → Prop) : Prop :=
  ∀ (H : Type) (enc : TypeId × Value → H) (w : World) (base : Nat) (spare : Nat → Bool) (held : Bool) (n : Nat) (cs : List Value) (y : DataW H × List MemPlace),
    DataW.trod enc P w base spare held n T cs = some y → ∃ x, d.K w x cs ∧ good x
theorem rds_int {P : Program} {T : TypeId} {k : IntKind} (ht : P.underlying T = some (.int k)) : Rds P (Kd.int k) T (fun x => (Lit.int k x).wf = true) := by
  intro H enc w base spare held n cs y h
  obtain ⟨m, rfl, _, hw⟩ := DataW.trod_int ht h
  exact ⟨m, rfl, hw⟩
theorem rds_slice {α : Type} {P : Program} {d : Kd α} {T e : TypeId} {good : α → Prop} (ht : P.underlying T = some (.slice e)) (hc : P.cellsOf e = d.sz) (hr : Rds P d e good) :
    Rds P (Kd.slice e d) T (fun xs => xs.length ≤ maxLen ∧ ∀ x ∈ xs, good x) := by
  intro H enc w base spare held n cs y h
  rcases open_slice ht h with ⟨rfl, _⟩ | ⟨a, len, cap, m, n', D, Pl, rfl, hb, hl, hm, hmm, _, hi⟩
  · exact ⟨[], ⟨none, 0, rfl, Nat.le_refl _, rfl, by simp, fun h0 => absurd h0 (by simp)⟩, by simp, by simp⟩
  · have hlm : len ≤ m := by rw [hmm]; split <;> omega
    have step : ∀ l, l ≤ len → ∃ xs : List α, xs.length = l ∧ (∀ x ∈ xs, good x) ∧ ∀ j p, xs[j]? = some p → ∃ c, w.cells? base (a.add (j * d.sz)) d.sz = some c ∧ d.K w p c := by
      intro l
      induction l with
      | zero => intro _; exact ⟨[], rfl, by simp, by simp⟩
      | succ l ih =>
        intro hl1
        obtain ⟨xs, hx, hg, hj⟩ := ih (by omega)
        obtain ⟨c, h1, h2⟩ := hi l (by omega)
        obtain ⟨x, k, g⟩ := hr _ _ _ _ _ _ _ _ _ h2
        rw [hc] at h1
        refine ⟨xs ++ [x], by simp [hx], ?_, ?_⟩
        · intro z hz
          rcases List.mem_append.1 hz with hz | hz
          · exact hg z hz
          · rw [List.mem_singleton.1 hz]; exact g
        · intro j p hp
          rcases Nat.lt_or_ge j xs.length with hlt | hge
          · rw [List.getElem?_append_left hlt] at hp; exact hj j p hp
          · have hjl : j = l := by
              have := (List.getElem?_eq_some_iff.1 hp).1
              rw [List.length_append, List.length_singleton] at this
              omega
            subst hjl
            rw [List.getElem?_append_right hge, hx, Nat.sub_self] at hp
            simp at hp
            subst hp
            exact ⟨c, h1, k⟩
    obtain ⟨xs, hx, hg, hj⟩ := step len (Nat.le_refl _)
    refine ⟨xs, ⟨some a, cap, by rw [hx], by omega, rfl, by rw [hx]; unfold maxLen at hm; omega, fun _ => ⟨a, rfl, fun j p hp => ?_⟩⟩, by rw [hx]; omega, hg⟩
    obtain ⟨c, h1, k⟩ := hj j p hp
    refine ⟨c, d.K_len k, k, fun i u hu => ?_⟩
    obtain ⟨_, hcl, hat⟩ := World.cells?_some h1
    have hil : i < d.sz := by have := (List.getElem?_eq_some_iff.1 hu).1; omega
    rw [← Go.Deep.add_add, hat i hil, hu]
theorem pair_mk {α β : Type} {a : Kd α} {b : Kd β} {w : World} {x : α} {y : β} {cs : List Value} {o : Nat} (h1 : a.K w x ((cs.drop o).take a.sz)) (h2 : b.K w y (cs.drop (o + a.sz))) : (Kd.pair a b).K w (x, y) (cs.drop o) :=
  ⟨_, _, by rw [← List.drop_drop]; exact (List.take_append_drop a.sz (cs.drop o)).symm, h1, h2⟩
theorem last_mk {α : Type} {a : Kd α} {w : World} {x : α} {cs : List Value} {o : Nat} (hl : cs.length = o + a.sz) (h1 : a.K w x ((cs.drop o).take a.sz)) : a.K w x (cs.drop o) := by
  rwa [List.take_of_length_le (by rw [List.length_drop]; omega)] at h1
theorem field {H : Type} {enc : TypeId × Value → H} {P : Program} {w : World} {base : Nat} {spare : Nat → Bool} {held : Bool} {n : Nat} {cs : List Value} {fs : Array Field} {xs : List (DataW H × List MemPlace)} (hx : xs.length = fs.size)
    (hf : ∀ (i : Nat) (f : Field), fs[i]? = some f → DataW.trod enc P w base spare held n f.type ((cs.drop f.offset).take (P.cellsOf f.type)) = xs[i]?)
    (i : Nat) (f : Field) (hi : fs[i]? = some f) {α : Type} {d : Kd α} {good : α → Prop} {o T : Nat} (ho : f.offset = o) (hT : f.type = T) (hc : P.cellsOf T = d.sz) (hr : Rds P d T good) : ∃ x, d.K w x ((cs.drop o).take d.sz) ∧ good x := by
  have h := hf i f hi
  have hlt : i < xs.length := by rw [hx]; exact (Array.getElem?_eq_some_iff.1 hi).1
  rw [List.getElem?_eq_getElem hlt, ho, hT, hc] at h
  exact hr _ _ _ _ _ _ _ _ _ h
end Go.Proofs.Ytkhfgflcanmefaa.Rd
end
section
namespace Go.Proofs.Ytkhfgflcanmefaa.orderQueues
open Go.ChangeShapes Go.WideShapes Go.ChangeAt Go.RowKit Go.Proofs.YtkhfgflcanmefaaW.PrintWords Go.Proofs.Ytkhfgflcanmefaa.PAll
open Go.ChangeMaps (open_string shut_string)
set_option linter.unusedVariables false
theorem own : ownKnob Try.prog.godebug = none := by kernel_rfl
theorem laidOut : laidOutB Try.prog = true := by kernel_rfl
theorem rds80 : Rd.Rds Try.prog k80 80 g80 := by
  intro H enc w base spare held n cs y h
  obtain ⟨xs, m, _, _, hlen, hxl, hf⟩ := DataW.trod_struct Try.underlying80 h
  have hl : cs.length = 2 := hlen.trans (by kernel_rfl)
  obtain ⟨x0, h0, g0_⟩ := Rd.field hxl hf 0 _ rfl (d := (Kd.int .i64)) (good := (fun x => (Lit.int .i64 x).wf = true)) (o := 0) (T := 3) rfl rfl (by kernel_rfl) (Rd.rds_int Try.underlying3)
  obtain ⟨x1, h1, g1_⟩ := Rd.field hxl hf 1 _ rfl (d := (Kd.int .i64)) (good := (fun x => (Lit.int .i64 x).wf = true)) (o := 1) (T := 3) rfl rfl (by kernel_rfl) (Rd.rds_int Try.underlying3)
  have hK := (Rd.pair_mk (o := 0) h0 (Rd.last_mk (a := (Kd.int .i64)) (o := 1) hl h1))
  exact ⟨⟨x0, x1⟩, (by rw [List.drop_zero] at hK; exact hK), ⟨g0_, g1_⟩⟩
theorem rds32 : Rd.Rds Try.prog k32 32 g32 := by
  intro H enc w base spare held n cs y h
  obtain ⟨xs, m, _, _, hlen, hxl, hf⟩ := DataW.trod_struct Try.underlying32 h
  have hl : cs.length = 12 := hlen.trans (by kernel_rfl)
  obtain ⟨x0, h0, g0_⟩ := Rd.field hxl hf 0 _ rfl (d := (Kd.int .i64)) (good := (fun x => (Lit.int .i64 x).wf = true)) (o := 0) (T := 3) rfl rfl (by kernel_rfl) (Rd.rds_int Try.underlying3)
  obtain ⟨x1, h1, g1_⟩ := Rd.field hxl hf 1 _ rfl (d := (Kd.int .i64)) (good := (fun x => (Lit.int .i64 x).wf = true)) (o := 1) (T := 3) rfl rfl (by kernel_rfl) (Rd.rds_int Try.underlying3)
  obtain ⟨x2, h2, g2_⟩ := Rd.field hxl hf 2 _ rfl (d := (Kd.int .i64)) (good := (fun x => (Lit.int .i64 x).wf = true)) (o := 2) (T := 3) rfl rfl (by kernel_rfl) (Rd.rds_int Try.underlying3)
  obtain ⟨x3, h3, g3_⟩ := Rd.field hxl hf 3 _ rfl (d := (Kd.int .i64)) (good := (fun x => (Lit.int .i64 x).wf = true)) (o := 3) (T := 3) rfl rfl (by kernel_rfl) (Rd.rds_int Try.underlying3)
  obtain ⟨x4, h4, g4_⟩ := Rd.field hxl hf 4 _ rfl (d := (Kd.int .i64)) (good := (fun x => (Lit.int .i64 x).wf = true)) (o := 4) (T := 3) rfl rfl (by kernel_rfl) (Rd.rds_int Try.underlying3)
  obtain ⟨x5, h5, g5_⟩ := Rd.field hxl hf 5 _ rfl (d := (Kd.int .i64)) (good := (fun x => (Lit.int .i64 x).wf = true)) (o := 5) (T := 3) rfl rfl (by kernel_rfl) (Rd.rds_int Try.underlying3)
  obtain ⟨x6, h6, g6_⟩ := Rd.field hxl hf 6 _ rfl (d := (Kd.int .i64)) (good := (fun x => (Lit.int .i64 x).wf = true)) (o := 6) (T := 3) rfl rfl (by kernel_rfl) (Rd.rds_int Try.underlying3)
  obtain ⟨x7, h7, g7_⟩ := Rd.field hxl hf 7 _ rfl (d := (Kd.int .i64)) (good := (fun x => (Lit.int .i64 x).wf = true)) (o := 7) (T := 3) rfl rfl (by kernel_rfl) (Rd.rds_int Try.underlying3)
  obtain ⟨x8, h8, g8_⟩ := Rd.field hxl hf 8 _ rfl (d := (Kd.int .i64)) (good := (fun x => (Lit.int .i64 x).wf = true)) (o := 8) (T := 3) rfl rfl (by kernel_rfl) (Rd.rds_int Try.underlying3)
  obtain ⟨x9, h9, g9_⟩ := Rd.field hxl hf 9 _ rfl (d := (Kd.int .i64)) (good := (fun x => (Lit.int .i64 x).wf = true)) (o := 9) (T := 3) rfl rfl (by kernel_rfl) (Rd.rds_int Try.underlying3)
  obtain ⟨x10, h10, g10_⟩ := Rd.field hxl hf 10 _ rfl (d := (Kd.int .i64)) (good := (fun x => (Lit.int .i64 x).wf = true)) (o := 10) (T := 3) rfl rfl (by kernel_rfl) (Rd.rds_int Try.underlying3)
  obtain ⟨x11, h11, g11_⟩ := Rd.field hxl hf 11 _ rfl (d := (Kd.slice 80 k80)) (good := (fun x => (x.length ≤ maxLen ∧ ∀ y ∈ x, g80 y))) (o := 11) (T := 30) rfl rfl (by kernel_rfl) (Rd.rds_slice (P := Try.prog) (T := 30) Try.underlying30 (by kernel_rfl) rds80)
  have hK := (Rd.pair_mk (o := 0) h0 (Rd.pair_mk (o := 1) h1 (Rd.pair_mk (o := 2) h2 (Rd.pair_mk (o := 3) h3 (Rd.pair_mk (o := 4) h4 (Rd.pair_mk (o := 5) h5 (Rd.pair_mk (o := 6) h6 (Rd.pair_mk (o := 7) h7 (Rd.pair_mk (o := 8) h8 (Rd.pair_mk (o := 9) h9 (Rd.pair_mk (o := 10) h10 (Rd.last_mk (a := (Kd.slice 80 k80)) (o := 11) hl h11))))))))))))
  exact ⟨⟨x0, x1, x2, x3, x4, x5, x6, x7, x8, x9, x10, x11⟩, (by rw [List.drop_zero] at hK; exact hK), ⟨g0_, g1_, g2_, g3_, g4_, g5_, g6_, g7_, g8_, g9_, g10_, g11_⟩⟩
set_option maxRecDepth 100000 in
theorem lifted (os : Os) (started : os.Started) (H : Type) (enc : TypeId × Value → H) :
    ReturnsInHanded {} Try.checked os 3 .any (Rows.orderQueuesSpec.pre6 enc Try.prog Try.f3 Rows.orderQueuesRow.domain false) (Rows.orderQueuesSpec.post enc Try.prog Try.f3 false true false false) := by
  refine returnsInHanded_of_change_sized (C := Try.checked) own started (by kernel_rfl) Try.func3
    (ChangeSpec.witness6 (enc := enc) (C := Try.checked) false ⟨#[], #[.slice none 0 0], []⟩ 8 (by kernel_rfl) (by kernel_rfl) (by kernel_rfl) (by kernel_rfl)) ?_
  intro W base args ds gs before hval0 hW hcnd hsz0 _
  have hval : ∀ (j : Nat) t v, Try.f3.params[j]? = some t → args[j]? = some v → Value.okWide Try.prog W .any base t v := hval0
  have hW' := hW
  obtain ⟨p, q, hA0, hV, rfl, hfz, hnd⟩ := hW
  have hA : DataW.TrodAll enc Try.prog W 0 (fun _ => true) true Try.f3.params.toList args.toList ds p := hA0
  rw [Try.params3] at hA hval
  obtain ⟨v0, vs0, d0, ds0, p0, q0, hargs, rfl, rfl, h0, r0⟩ := trodAll_cons hA
  obtain ⟨rfl, rfl, rfl⟩ := trodAll_nil r0
  obtain rfl : args = #[v0] := by cases args; simp_all
  obtain ⟨rfl, rfl⟩ := trodVars_none hV
  obtain ⟨a0, len0, cap0, rfl⟩ := okWide_slice Try.underlying22 (hval 0 22 v0 rfl rfl)
  have k0 := h0
  have lt0 : ∀ x ∈ p0, x.block < W.heap.size := by obtain ⟨m, hm⟩ := k0; exact DataW.trod_lt m _ _ _ hm
  obtain ⟨l0, ⟨A0, c0, he0, hl0, hC0⟩, g0_⟩ : ∃ xs, ((Kd.slice 32 k32)).K W xs [.slice a0 len0 cap0] ∧ (fun x => (x.length ≤ maxLen ∧ ∀ y ∈ x, g32 y)) xs := by
    obtain ⟨fuel, hf⟩ := h0
    exact (Rd.rds_slice (P := Try.prog) (T := 22) Try.underlying22 (by kernel_rfl) rds32) _ _ _ _ _ _ _ _ _ hf
  obtain ⟨rfl, rfl, rfl⟩ : a0 = A0 ∧ len0 = l0.length ∧ cap0 = c0 := by simpa using he0
  clear hA0 hval0 hsz0
  refine (PAll.prebendlaw15_OrderQueues.walk Pure.OrderQueues _ _ l0 W hC0 hl0 g0_).mono fun e W' ⟨he, bel⟩ => ?_
  subst he
  exact ⟨_, rfl, _, _, _, [], _, [], hW', trodAll_mk1 (shut_bool Try.underlying4 _), (trodAll_cons_mk (Below.trod laidOut (by kernel_rfl) (of_decide_eq_true (by kernel_rfl)) k0 bel lt0) trodAll_mk0), rfl, bel.frame _, fun h => by cases h⟩
theorem over : Rows.orderQueuesRow.holds Try.pinned (OpenSpec.ofChange Rows.orderQueuesSpec) :=
  OpenClaim.holds_of_wide 3 Try.f3 rfl rfl rfl rfl rfl rfl rfl ⟨rfl, rfl, rfl, rfl, rfl⟩ rfl rfl rfl rfl rfl (by kernel_rfl) Try.func3 (by kernel_rfl)
    (of_decide_eq_true (by kernel_rfl)) (by unfold Func.isWrapper; first | (rw [if_pos (by decide +kernel)]; kernel_rfl) | (rw [if_neg (by decide +kernel)]; exact ⟨rfl, rfl⟩))
    (fun os started H enc _ => lifted os started H enc)
theorem proved : Rows.OrderQueuesSaid := over
#print axioms proved
end Go.Proofs.Ytkhfgflcanmefaa.orderQueues
namespace Go.Proofs.Ytkhfgflcanmefaa
/-- The row, under a short name, for the claim. -/
theorem orderQueues_holds : Rows.OrderQueuesSaid := orderQueues.proved
end Go.Proofs.Ytkhfgflcanmefaa
end
