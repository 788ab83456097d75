/- JobApart: jobs that run now have their nodes apart just if no two have a node in common. -/
import Derived.Test.YtkhfgflcanmefaaBJobApart4
import Derived.Deep.Slices
import Derived.Deep.Fields
import Derived.ChangeSame
import Derived.ChangeArms
import Derived.OpenShut
import Derived.Test.YtkhfgflcanmefaaRows
import Derived.ProofKit
import Derived.ShutString
import Derived.ChangeOld
import Derived.Carry
section
set_option linter.unusedVariables false
set_option linter.unusedSimpArgs false
namespace Go.Proofs.Ytkhfgflcanmefaa.Pure
open Go Go.RowKit Go.Proofs.Ytkhfgflcanmefaa.PAll Go.Proofs.YtkhfgflcanmefaaW.PrintWords Go.Proofs.YtkhfgflcanmefaaW.PrintLast
section SortA
variable {α : Type}
structure TP (le : α → α → Bool) : Prop where
  total : ∀ a b, le a b = true ∨ le b a = true
  trans : ∀ {a b c}, le a b = true → le b c = true → le a c = true
def eqv (le : α → α → Bool) (a b : α) : Bool := le a b && le b a
def SEq (le : α → α → Bool) (xs ys : List α) : Prop := ∀ c, xs.filter (eqv le c) = ys.filter (eqv le c)
abbrev Srt (le : α → α → Bool) (xs : List α) : Prop := xs.Pairwise (fun a b => le a b = true)
variable {le : α → α → Bool}
theorem TP.refl (h : TP le) (a : α) : le a a = true := by rcases h.total a a with h | h <;> exact h
theorem TP.of_not (h : TP le) {a b : α} (hn : le a b = false) : le b a = true := by
  rcases h.total a b with h1 | h1
  · rw [hn] at h1; cases h1
  · exact h1
theorem SEq.refl (xs : List α) : SEq le xs xs := fun _ => rfl
theorem SEq.symm {xs ys : List α} (h : SEq le xs ys) : SEq le ys xs := fun c => (h c).symm
theorem SEq.trans {xs ys zs : List α} (h : SEq le xs ys) (h2 : SEq le ys zs) : SEq le xs zs := fun c => (h c).trans (h2 c)
theorem SEq.append {xs ys xs' ys' : List α} (h : SEq le xs ys) (h2 : SEq le xs' ys') : SEq le (xs ++ xs') (ys ++ ys') := fun c => by
  rw [List.filter_append, List.filter_append, h c, h2 c]
theorem SEq.cons (x : α) {xs ys : List α} (h : SEq le xs ys) : SEq le (x :: xs) (x :: ys) := fun c => by
  rw [List.filter_cons, List.filter_cons, h c]
theorem SEq.mem (ht : TP le) {xs ys : List α} (h : SEq le xs ys) {x : α} (hx : x ∈ xs) : x ∈ ys := by
  have h1 : x ∈ xs.filter (eqv le x) := List.mem_filter.2 ⟨hx, by simp [eqv, ht.refl]⟩
  rw [h x] at h1
  exact (List.mem_filter.1 h1).1
theorem SEq.swap (ht : TP le) {A B : List α} (h : ∀ a ∈ A, ∀ b ∈ B, le a b = false) : SEq le (A ++ B) (B ++ A) := fun c => by
  rw [List.filter_append, List.filter_append]
  by_cases hA : A.filter (eqv le c) = []
  · rw [hA]; simp
  · have hB : B.filter (eqv le c) = [] := by
      rw [List.filter_eq_nil_iff]
      intro b hb hcb
      obtain ⟨a, ha⟩ := List.exists_mem_of_ne_nil _ hA
      obtain ⟨ha, hca⟩ := List.mem_filter.1 ha
      simp only [eqv, Bool.and_eq_true] at hca hcb
      have := h a ha b hb
      rw [ht.trans hca.2 hcb.1] at this
      cases this
    rw [hB]; simp
theorem SEq.uniq (ht : TP le) : ∀ {xs ys : List α}, Srt le xs → Srt le ys → SEq le xs ys → xs = ys
  | [], [], _, _, _ => rfl
  | [], y :: ys, _, _, h => by have := SEq.mem ht (SEq.symm h) (List.mem_cons_self (a := y)); simp at this
  | x :: xs, [], _, _, h => by have := SEq.mem ht h (List.mem_cons_self (a := x)); simp at this
  | x :: xs, y :: ys, hx, hy, h => by
    have hx' := List.pairwise_cons.1 hx
    have hy' := List.pairwise_cons.1 hy
    have h1 : le y x = true := by
      rcases List.mem_cons.1 (SEq.mem ht h (List.mem_cons_self (a := x))) with e | e
      · rw [e]; exact ht.refl _
      · exact hy'.1 _ e
    have h2 : le x y = true := by
      rcases List.mem_cons.1 (SEq.mem ht (SEq.symm h) (List.mem_cons_self (a := y))) with e | e
      · rw [e]; exact ht.refl _
      · exact hx'.1 _ e
    have h3 := h x
    rw [List.filter_cons, List.filter_cons, if_pos (by simp [eqv, ht.refl]), if_pos (by simp [eqv, h1, h2])] at h3
    have h4 : x = y := by injection h3
    subst h4
    rw [SEq.uniq ht hx'.2 hy'.2 (fun c => by
      have h5 := h c
      rw [List.filter_cons, List.filter_cons] at h5
      split at h5
      · injection h5
      · exact h5)]
def ins (le : α → α → Bool) (x : α) : List α → List α
  | [] => [x]
  | y :: ys => if le x y = true then x :: y :: ys else y :: ins le x ys
def isort (le : α → α → Bool) : List α → List α
  | [] => []
  | x :: xs => ins le x (isort le xs)
theorem ins_perm (x : α) : ∀ ys : List α, (ins le x ys).Perm (x :: ys)
  | [] => .refl _
  | y :: ys => by
    unfold ins
    split
    · exact .refl _
    · exact ((ins_perm x ys).cons y).trans (.swap x y ys)
theorem isort_perm : ∀ xs : List α, (isort le xs).Perm xs
  | [] => .refl _
  | x :: xs => (ins_perm x _).trans ((isort_perm xs).cons x)
theorem ins_srt (ht : TP le) (x : α) : ∀ {ys : List α}, Srt le ys → Srt le (ins le x ys)
  | [], _ => by simp [ins]
  | y :: ys, h => by
    have h' := List.pairwise_cons.1 h
    unfold ins
    split
    · next hxy => exact List.pairwise_cons.2 ⟨fun z hz => by
        rcases List.mem_cons.1 hz with rfl | hz
        · exact hxy
        · exact ht.trans hxy (h'.1 z hz), h⟩
    · next hxy => exact List.pairwise_cons.2 ⟨fun z hz => by
        rcases List.mem_cons.1 ((ins_perm x ys).mem_iff.1 hz) with rfl | hz
        · exact ht.of_not (by simpa using hxy)
        · exact h'.1 z hz, ins_srt ht x h'.2⟩
theorem isort_srt (ht : TP le) : ∀ xs : List α, Srt le (isort le xs)
  | [] => .nil
  | x :: xs => ins_srt ht x (isort_srt ht xs)
theorem ins_seq (ht : TP le) (x : α) : ∀ ys : List α, SEq le (ins le x ys) (x :: ys)
  | [] => .refl _
  | y :: ys => by
    unfold ins
    split
    · exact .refl _
    · next hxy =>
      refine ((ins_seq ht x ys).cons y).trans ?_
      have := SEq.swap (le := le) ht (A := [x]) (B := [y]) (fun a ha b hb => by simp at ha hb; subst ha; subst hb; simpa using hxy)
      exact (SEq.append this (SEq.refl ys)).symm
theorem isort_seq (ht : TP le) : ∀ xs : List α, SEq le (isort le xs) xs
  | [] => .refl _
  | x :: xs => (ins_seq ht x _).trans ((isort_seq ht xs).cons x)
theorem isort_eq (ht : TP le) {xs ys : List α} (h : Srt le ys) (h2 : SEq le ys xs) : ys = isort le xs :=
  SEq.uniq ht h (isort_srt ht xs) (h2.trans (isort_seq ht xs).symm)
end SortA
section SortB
variable {α : Type} {d : α} {le : α → α → Bool} {cmp : α → α → Option Int}
theorem wr_ (n : Int) (h : -9223372036854775808 ≤ n) (h2 : n < 9223372036854775808) : wrap64 n = n := by unfold wrap64; omega
theorem half_ (x y : Int) (hx : 0 ≤ x) (hy : 0 ≤ y) (h : x + y < 9223372036854775808) : wrap64 ((IntKind.u64.wrap (wrap64 (x + y))) / 2) = (x + y) / 2 := by
  rw [wr_ (x + y) (by omega) h]
  have : IntKind.u64.wrap (x + y) = x + y := by
    show (x + y) % 18446744073709551616 = x + y
    omega
  rw [this, wr_ _ (by omega) (by omega)]
theorem gt_ (p q : List α) (x : α) (i : Int) (hi : i = p.length) : (p ++ x :: q).getD i.toNat d = x := by
  subst hi; simp [List.getD_eq_getElem?_getD]
theorem st_ (p q : List α) (x v : α) (i : Int) (hi : i = p.length) : (p ++ x :: q).set i.toNat v = p ++ v :: q := by
  subst hi; simp
theorem swp_ (p m q : List α) (x y : α) (i j : Int) (hi : i = p.length) (hj : j = p.length + 1 + m.length) : ((p ++ x :: (m ++ y :: q)).set i.toNat y).set j.toNat x = p ++ y :: (m ++ x :: q) := by
  rw [st_ p _ x y i hi]
  have := st_ (p ++ y :: m) q y x j (by simp; omega)
  simpa using this
theorem swp'_ (p m q : List α) (x y : α) (i j : Int) (hi : i = p.length) (hj : j = p.length + 1 + m.length) : ((p ++ x :: (m ++ y :: q)).set j.toNat x).set i.toNat y = p ++ y :: (m ++ x :: q) := by
  have := st_ (p ++ x :: m) q y x j (by simp; omega)
  rw [show p ++ x :: (m ++ y :: q) = (p ++ x :: m) ++ y :: q by simp, this, show (p ++ x :: m) ++ x :: q = p ++ x :: (m ++ x :: q) by simp, st_ p _ x y i hi]
theorem isort_congr (ht : TP le) {xs ys : List α} (h : SEq le xs ys) : isort le xs = isort le ys :=
  isort_eq ht (isort_srt ht xs) ((isort_seq ht xs).trans h)
theorem srt_isort (ht : TP le) {xs : List α} (h : Srt le xs) : isort le xs = xs := (isort_eq ht h (SEq.refl _)).symm
theorem isort_len (xs : List α) : (isort le xs).length = xs.length := (isort_perm xs).length_eq
theorem eq_of_len0 {xs : List α} (h : xs.length = 0) : xs = [] := List.length_eq_zero_iff.1 h

def Cmp (le : α → α → Bool) (cmp : α → α → Option Int) : Prop := ∀ x y, ∃ t, cmp x y = some t ∧ (t < 0 ↔ le y x = false)

structure InsF (d : α) (cmp : α → α → Option Int) (l0 : Nat → List α → Int → Int → Int → Option (List α)) (l1 : Nat → List α → Int → Int → Int → Int → Option (List α)) : Prop where
  e0 : ∀ k xs a b i, l0 (k + 1) xs a b i = if i < b then l1 k xs a b i i else some xs
  e1 : ∀ k xs a b i j, l1 (k + 1) xs a b i j = if j > a then (if 0 ≤ j then (if j < (xs.length : Int) then (if 0 ≤ (wrap64 (j - 1)) then (if (wrap64 (j - 1)) < (xs.length : Int) then
      ((cmp (xs.getD j.toNat d) (xs.getD (wrap64 (j - 1)).toNat d)).bind fun t => (if t < 0 then (l1 k ((xs.set j.toNat (xs.getD (wrap64 (j - 1)).toNat d)).set (wrap64 (j - 1)).toNat (xs.getD j.toNat d)) a b i (wrap64 (j - 1))) else (l0 k xs a b (wrap64 (i + 1))))) else none) else none) else none) else none) else (l0 k xs a b (wrap64 (i + 1)))
variable {l0 : Nat → List α → Int → Int → Int → Option (List α)} {l1 : Nat → List α → Int → Int → Int → Int → Option (List α)}
theorem ins_l1 (ht : TP le) (hcmp : Cmp le cmp) (hF : InsF d cmp l0 l1) {pre post r : List α} {a b i : Int} (ha : a = pre.length) (hi0 : 0 ≤ i) (hi1 : i < 1099511627776) (x : α) : ∀ (n : Nat) (S1 S2 : List α) (j : Int), S1.length = n → j = a + S1.length →
    (pre ++ S1 ++ x :: S2 ++ post).length < 1099511627776 → Srt le (S1 ++ S2) → (∀ z ∈ S2, le z x = false) →
    (∀ S', Srt le S' → SEq le S' (S1 ++ x :: S2) → Ev (fun k => l0 k (pre ++ S' ++ post) a b (i + 1)) r) →
    Ev (fun k => l1 k (pre ++ S1 ++ x :: S2 ++ post) a b i j) r
  | 0, S1, S2, j, hn, hj, hl, hs, hz, hk => by
    have := eq_of_len0 hn
    subst this
    refine Ev.step (fun k => by rw [hF.e1, if_neg (by simp at hj; omega), wr_ _ (by omega) (by omega)]) ?_
    have := hk (x :: S2) (List.pairwise_cons.2 ⟨fun z hz' => ht.of_not (hz z hz'), by simpa using hs⟩) (SEq.refl _)
    simpa using this
  | n + 1, S1, S2, j, hn, hj, hl, hs, hz, hk => by
    obtain ⟨S, y, rfl⟩ : ∃ S y, S1 = S ++ [y] := ⟨S1.dropLast, S1.getLast (by intro e; simp [e] at hn), (List.dropLast_concat_getLast _).symm⟩
    simp at hn hj
    obtain ⟨t, h1, h2⟩ := hcmp x y
    have hlen : ((pre ++ (S ++ [y]) ++ x :: S2 ++ post).length : Int) = pre.length + S.length + 1 + 1 + S2.length + post.length := by simp; omega
    have g1 : (pre ++ (S ++ [y]) ++ x :: S2 ++ post).getD j.toNat d = x := by
      have := gt_ (d := d) (pre ++ S ++ [y]) (S2 ++ post) x j (by simp; omega)
      simpa using this
    have g2 : (pre ++ (S ++ [y]) ++ x :: S2 ++ post).getD (j - 1).toNat d = y := by
      have := gt_ (d := d) (pre ++ S) (x :: S2 ++ post) y (j - 1) (by simp; omega)
      simpa using this
    have g3 : ((pre ++ (S ++ [y]) ++ x :: S2 ++ post).set j.toNat y).set (j - 1).toNat x = pre ++ S ++ x :: (y :: S2) ++ post := by
      have := swp'_ (pre ++ S) [] (S2 ++ post) y x (j - 1) j (by simp; omega) (by simp; omega)
      simpa using this
    refine Ev.step (f := fun k => if t < 0 then l1 k (pre ++ S ++ x :: (y :: S2) ++ post) a b i (j - 1) else l0 k (pre ++ (S ++ [y]) ++ x :: S2 ++ post) a b (i + 1)) (fun k => by
      rw [hF.e1, if_pos (by omega), if_pos (by omega), if_pos (by rw [hlen]; omega), wr_ (j - 1) (by omega) (by omega), wr_ (i + 1) (by omega) (by omega), if_pos (by omega), if_pos (by rw [hlen]; omega), g1, g2, h1, g3]
      rfl) ?_
    have hs' := List.pairwise_append.1 hs
    have hs1 := List.pairwise_append.1 hs'.1
    by_cases ht0 : t < 0
    · simp only [if_pos ht0]
      have hyx := h2.1 ht0
      refine ins_l1 ht hcmp hF ha hi0 hi1 x n S (y :: S2) (j - 1) hn (by omega) (by simp at hl ⊢; omega) (by simpa using hs) (fun z hz' => ?_) (fun S' h3 h4 => hk S' h3 (h4.trans ?_))
      · rcases List.mem_cons.1 hz' with rfl | hz'
        · exact hyx
        · exact hz z hz'
      · have h5 : SEq le ([y] ++ [x]) ([x] ++ [y]) := SEq.swap ht (fun p hp q hq => by simp at hp hq; subst hp; subst hq; exact hyx)
        have := SEq.append (SEq.append (SEq.refl S) h5.symm) (SEq.refl S2)
        simpa using this
    · simp only [if_neg ht0]
      have hyx : le y x = true := by
        cases h : le y x
        · exact absurd (h2.2 h) ht0
        · rfl
      have := hk (S ++ [y] ++ x :: S2) (by
        refine List.pairwise_append.2 ⟨hs'.1, List.pairwise_cons.2 ⟨fun z hz' => ht.of_not (hz z hz'), hs'.2.1⟩, fun p hp q hq => ?_⟩
        have hpy : le p y = true := by
          rcases List.mem_append.1 hp with hp | hp
          · exact hs1.2.2 p hp y (by simp)
          · simp at hp; subst hp; exact ht.refl _
        rcases List.mem_cons.1 hq with rfl | hq
        · exact ht.trans hpy hyx
        · exact hs'.2.2 p hp q hq) (SEq.refl _)
      simpa using this
theorem ins_l0 (ht : TP le) (hcmp : Cmp le cmp) (hF : InsF d cmp l0 l1) {pre post : List α} {a b : Int} (ha : a = pre.length) : ∀ (R S : List α) (i : Int), i = a + S.length → b = i + R.length →
    (pre ++ S ++ R ++ post).length < 1099511627776 → Srt le S → Ev (fun k => l0 k (pre ++ S ++ R ++ post) a b i) (pre ++ isort le (S ++ R) ++ post)
  | [], S, i, hi, hb, hl, hs => by
    refine Ev.step (f := fun _ => some (pre ++ isort le (S ++ []) ++ post)) (fun k => ?_) (Ev.now _)
    simp at hb
    rw [hF.e0, if_neg (by omega)]
    simp [srt_isort ht hs]
  | x :: R, S, i, hi, hb, hl, hs => by
    refine Ev.step (f := fun k => l1 k (pre ++ S ++ x :: R ++ post) a b i i) (fun k => by simp at hb; rw [hF.e0, if_pos (by omega)]) ?_
    have hl' := hl
    simp at hl'
    have h0 := ins_l1 ht hcmp hF (pre := pre) (post := R ++ post) (r := pre ++ isort le (S ++ x :: R) ++ post) (a := a) (b := b) (i := i) ha (by omega) (by omega) x S.length S [] i rfl hi (by simp; omega) (by simpa using hs) (by simp) (fun S' h1 h2 => ?_)
    · simpa using h0
    · have h3 := ins_l0 ht hcmp hF (pre := pre) (post := post) (a := a) (b := b) ha R S' (i + 1) (by
        have : S'.length = S.length + 1 := by
          have e := isort_eq ht h1 h2
          rw [e, isort_len]; simp
        omega) (by simp at hb; omega) (by
          have : S'.length = S.length + 1 := by
            have e := isort_eq ht h1 h2
            rw [e, isort_len]; simp
          simp; omega) h1
      have h4 : isort le (S' ++ R) = isort le (S ++ x :: R) := isort_congr ht (by simpa using SEq.append h2 (SEq.refl R))
      rw [h4] at h3
      simpa using h3
theorem ins_f (ht : TP le) (hcmp : Cmp le cmp) (hF : InsF d cmp l0 l1) {pre S post : List α} {a b : Int} (ha : a = pre.length) (hb : b = a + S.length) (hl : (pre ++ S ++ post).length < 1099511627776) :
    Ev (fun k => l0 k (pre ++ S ++ post) a b (wrap64 (a + 1))) (pre ++ isort le S ++ post) := by
  have hl' := hl
  simp at hl'
  rw [wr_ _ (by omega) (by omega)]
  cases S with
  | nil =>
    refine Ev.step (f := fun _ => some (pre ++ isort le [] ++ post)) (fun k => ?_) (Ev.now _)
    simp at hb
    rw [hF.e0, if_neg (by omega)]
    rfl
  | cons x R =>
    have := ins_l0 ht hcmp hF (pre := pre) (post := post) (a := a) (b := b) ha R [x] (a + 1) (by simp) (by simp at hb; omega) (by simp; simp at hl'; omega) (by simp)
    simpa using this

structure SwF (d : α) (l0 : Nat → List α → Int → Int → Int → Int → Option (List α)) : Prop where
  e0 : ∀ k xs a b n i, l0 (k + 1) xs a b n i = if i < n then (if 0 ≤ (wrap64 (b + i)) then (if (wrap64 (b + i)) < (xs.length : Int) then (if 0 ≤ (wrap64 (a + i)) then (if (wrap64 (a + i)) < (xs.length : Int) then
      (l0 k ((xs.set (wrap64 (a + i)).toNat (xs.getD (wrap64 (b + i)).toNat d)).set (wrap64 (b + i)).toNat (xs.getD (wrap64 (a + i)).toNat d)) a b n (wrap64 (i + 1))) else none) else none) else none) else none) else some xs
variable {s0 : Nat → List α → Int → Int → Int → Int → Option (List α)}
theorem sw_l0 (hF : SwF d s0) {a b n : Int} (ha0 : 0 ≤ a) (hb0 : 0 ≤ b) : ∀ (X Y pre mid post : List α) (i : Int), X.length = Y.length → 0 ≤ i → a + i = pre.length → b + i = pre.length + X.length + mid.length → n = i + X.length →
    (pre ++ X ++ mid ++ Y ++ post).length < 1099511627776 → Ev (fun k => s0 k (pre ++ X ++ mid ++ Y ++ post) a b n i) (pre ++ Y ++ mid ++ X ++ post)
  | [], Y, pre, mid, post, i, hxy, hi, ha, hb, hn, hl => by
    have : Y = [] := eq_of_len0 hxy.symm
    subst this
    refine Ev.step (f := fun _ => some (pre ++ [] ++ mid ++ [] ++ post)) (fun k => ?_) (Ev.now _)
    simp at hn
    rw [hF.e0, if_neg (by omega)]
  | x :: X, [], pre, mid, post, i, hxy, hi, ha, hb, hn, hl => by simp at hxy
  | x :: X, y :: Y, pre, mid, post, i, hxy, hi, ha, hb, hn, hl => by
    have hlen : ((pre ++ x :: X ++ mid ++ y :: Y ++ post).length : Int) = pre.length + X.length + 1 + mid.length + Y.length + 1 + post.length := by simp; omega
    simp at hxy hb hn
    have g1 : (pre ++ x :: X ++ mid ++ y :: Y ++ post).getD (a + i).toNat d = x := by
      have := gt_ (d := d) pre (X ++ mid ++ y :: Y ++ post) x (a + i) (by omega)
      simpa using this
    have g2 : (pre ++ x :: X ++ mid ++ y :: Y ++ post).getD (b + i).toNat d = y := by
      have := gt_ (d := d) (pre ++ x :: X ++ mid) (Y ++ post) y (b + i) (by simp; omega)
      simpa using this
    have g3 : ((pre ++ x :: X ++ mid ++ y :: Y ++ post).set (a + i).toNat y).set (b + i).toNat x = (pre ++ [y]) ++ X ++ (mid ++ [x]) ++ Y ++ post := by
      have := swp_ pre (X ++ mid) (Y ++ post) x y (a + i) (b + i) (by omega) (by simp; omega)
      simpa using this
    refine Ev.step (f := fun k => s0 k ((pre ++ [y]) ++ X ++ (mid ++ [x]) ++ Y ++ post) a b n (i + 1)) (fun k => by
      have hl2 := hlen
      rw [hF.e0, if_pos (by omega), wr_ (b + i) (by omega) (by omega), wr_ (a + i) (by omega) (by omega), wr_ (i + 1) (by omega) (by omega), if_pos (by omega), if_pos (by rw [hlen]; omega), if_pos (by omega), if_pos (by rw [hlen]; omega), g1, g2, g3]) ?_
    have := sw_l0 hF (a := a) (b := b) (n := n) ha0 hb0 X Y (pre ++ [y]) (mid ++ [x]) post (i + 1) hxy (by omega) (by simp; omega) (by simp; omega) (by omega) (by simp at hl ⊢; omega)
    simpa using this

structure RoF (s0 : Nat → List α → Int → Int → Int → Int → Option (List α)) (l0 : Nat → List α → Int → Int → Int → Option (List α)) : Prop where
  e0 : ∀ k xs m i j, l0 (k + 1) xs m i j = if i = j then ((s0 k xs (wrap64 (m - i)) m i 0).bind fun t => some t) else (if i > j then ((s0 k xs (wrap64 (m - i)) m j 0).bind fun t => (l0 k t m (wrap64 (i - j)) j)) else
      ((s0 k xs (wrap64 (m - i)) (wrap64 ((wrap64 (m + j)) - i)) i 0).bind fun t => (l0 k t m i (wrap64 (j - i)))))
variable {r0 : Nat → List α → Int → Int → Int → Option (List α)}
theorem ro_l0 (hS : SwF d s0) (hF : RoF s0 r0) {m : Int} : ∀ (n : Nat) (A B pre post : List α) (i j : Int), A.length + B.length ≤ n → 0 < A.length → 0 < B.length → m = pre.length + A.length → i = A.length → j = B.length →
    (pre ++ A ++ B ++ post).length < 1099511627776 → Ev (fun k => r0 k (pre ++ A ++ B ++ post) m i j) (pre ++ B ++ A ++ post)
  | 0, A, B, pre, post, i, j, hn, hA, hB, hm, hi, hj, hl => by omega
  | n + 1, A, B, pre, post, i, j, hn, hA, hB, hm, hi, hj, hl => by
    have hlen : ((pre ++ A ++ B ++ post).length : Int) = pre.length + A.length + B.length + post.length := by simp; omega
    rcases Nat.lt_trichotomy A.length B.length with h | h | h
    · -- B is longer: its last part comes to the front
      obtain ⟨B1, B2, rfl, h2⟩ : ∃ B1 B2, B = B1 ++ B2 ∧ B2.length = A.length := ⟨B.take (B.length - A.length), B.drop (B.length - A.length), (List.take_append_drop _ _).symm, by simp; omega⟩
      simp at hj hlen hn h hl
      refine Ev.step (f := fun k => (s0 k (pre ++ A ++ (B1 ++ B2) ++ post) (m - i) (m + j - i) i 0).bind fun t => r0 k t m i (j - i)) (fun k => by
        rw [hF.e0, if_neg (by omega), if_neg (by omega), wr_ (m - i) (by omega) (by omega), wr_ (m + j) (by omega) (by omega), wr_ (m + j - i) (by omega) (by omega), wr_ (j - i) (by omega) (by omega)]) ?_
      have hs := sw_l0 hS (a := m - i) (b := m + j - i) (n := i) (by omega) (by omega) A B2 pre B1 post 0 h2.symm (by omega) (by omega) (by omega) (by omega) (by simp; omega)
      have hs' : Ev (fun k => s0 k (pre ++ A ++ (B1 ++ B2) ++ post) (m - i) (m + j - i) i 0) (pre ++ B2 ++ B1 ++ (A ++ post)) := by simpa using hs
      refine Ev.bind hs' ?_
      have := ro_l0 hS hF (m := m) n B2 B1 pre (A ++ post) i (j - i) (by omega) (by omega) (by omega) (by omega) (by omega) (by omega) (by simp; omega)
      simpa using this
    · refine Ev.step (f := fun k => (s0 k (pre ++ A ++ B ++ post) (m - i) m i 0).bind fun t => some t) (fun k => by
        rw [hF.e0, if_pos (by omega), wr_ (m - i) (by omega) (by omega)]) ?_
      have hs := sw_l0 hS (a := m - i) (b := m) (n := i) (by omega) (by omega) A B pre [] post 0 h (by omega) (by omega) (by simp; omega) (by omega) (by simpa using hl)
      refine Ev.bind (a := pre ++ B ++ A ++ post) (by simpa using hs) (Ev.now _)
    · obtain ⟨A1, A2, rfl, h2⟩ : ∃ A1 A2, A = A1 ++ A2 ∧ A1.length = B.length := ⟨A.take B.length, A.drop B.length, (List.take_append_drop _ _).symm, by simp; omega⟩
      simp at hi hlen hn h hl hm
      refine Ev.step (f := fun k => (s0 k (pre ++ (A1 ++ A2) ++ B ++ post) (m - i) m j 0).bind fun t => r0 k t m (i - j) j) (fun k => by
        rw [hF.e0, if_neg (by omega), if_pos (by omega), wr_ (m - i) (by omega) (by omega), wr_ (i - j) (by omega) (by omega)]) ?_
      have hs := sw_l0 hS (a := m - i) (b := m) (n := j) (by omega) (by omega) A1 B pre A2 post 0 h2 (by omega) (by omega) (by omega) (by omega) (by simp; omega)
      have hs' : Ev (fun k => s0 k (pre ++ (A1 ++ A2) ++ B ++ post) (m - i) m j 0) ((pre ++ B) ++ A2 ++ A1 ++ post) := by simpa using hs
      refine Ev.bind hs' ?_
      have := ro_l0 hS hF (m := m) n A2 A1 (pre ++ B) post (i - j) j (by omega) (by omega) (by omega) (by simp; omega) (by omega) (by omega) (by simp; omega)
      simpa using this
end SortB
section SortC
variable {α : Type} {d : α} {le : α → α → Bool} {cmp : α → α → Option Int}
abbrev hlf (x y : Int) : Int := wrap64 ((IntKind.u64.wrap (wrap64 (x + y))) / 2)
structure SyF (d : α) (cmp : α → α → Option Int) (r0 : Nat → List α → Int → Int → Int → Option (List α)) (l0 : Nat → List α → Int → Int → Int → Option (List α)) (l1 : Nat → List α → Int → Int → Option (List α)) (l2 : Nat → List α → Int → Int → Int → Option (List α)) (l3 : Nat → List α → Int → Int → Option (List α))
    (j4 : Nat → List α → Int → Int → Int → Int → Int → Int → Int → Option (List α)) (l4 : Nat → List α → Int → Int → Int → Int → Int → Int → Int → Int → Option (List α)) (j6 : Nat → List α → Int → Int → Int → Int → Int → Int → Bool → Option (List α)) (j7 : Nat → List α → Int → Int → Int → Int → Int → Option (List α)) (j8 : Nat → List α → Int → Int → Int → Int → Int → Bool → Option (List α))
    (f : Nat → List α → Int → Int → Int → Option (List α)) : Prop where
  ef : ∀ k xs a m b, f (k + 1) xs a m b = if wrap64 (m - a) = 1 then l0 k xs a m b else (if wrap64 (b - m) = 1 then l2 k xs m a m else (if m > hlf a b then j4 k xs a m b (hlf a b) (wrap64 (hlf a b + m)) (wrap64 (wrap64 (hlf a b + m) - b)) (hlf a b) else j4 k xs a m b (hlf a b) (wrap64 (hlf a b + m)) a m))
  e0 : ∀ k xs a i j, l0 (k + 1) xs a i j = if i < j then (if 0 ≤ hlf i j then (if hlf i j < (xs.length : Int) then (if 0 ≤ a then (if a < (xs.length : Int) then ((cmp (xs.getD (hlf i j).toNat d) (xs.getD a.toNat d)).bind fun t => (if t < 0 then l0 k xs a (wrap64 (hlf i j + 1)) j else l0 k xs a i (hlf i j))) else none) else none) else none) else none) else l1 k xs i a
  e1 : ∀ k xs i q, l1 (k + 1) xs i q = if q < wrap64 (i - 1) then (if 0 ≤ wrap64 (q + 1) then (if wrap64 (q + 1) < (xs.length : Int) then (if 0 ≤ q then (if q < (xs.length : Int) then l1 k ((xs.set q.toNat (xs.getD (wrap64 (q + 1)).toNat d)).set (wrap64 (q + 1)).toNat (xs.getD q.toNat d)) i (wrap64 (q + 1)) else none) else none) else none) else none) else some xs
  e2 : ∀ k xs m i j, l2 (k + 1) xs m i j = if i < j then (if 0 ≤ m then (if m < (xs.length : Int) then (if 0 ≤ hlf i j then (if hlf i j < (xs.length : Int) then ((cmp (xs.getD m.toNat d) (xs.getD (hlf i j).toNat d)).bind fun t => (if t < 0 then l2 k xs m i (hlf i j) else l2 k xs m (wrap64 (hlf i j + 1)) j)) else none) else none) else none) else none) else l3 k xs i m
  e3 : ∀ k xs i q, l3 (k + 1) xs i q = if q > i then (if 0 ≤ wrap64 (q - 1) then (if wrap64 (q - 1) < (xs.length : Int) then (if 0 ≤ q then (if q < (xs.length : Int) then l3 k ((xs.set q.toNat (xs.getD (wrap64 (q - 1)).toNat d)).set (wrap64 (q - 1)).toNat (xs.getD q.toNat d)) i (wrap64 (q - 1)) else none) else none) else none) else none) else some xs
  ej4 : ∀ k xs a m b mid n st r, j4 (k + 1) xs a m b mid n st r = l4 k xs a m b mid n st r (wrap64 (n - 1))
  e4 : ∀ k xs a m b mid n st r p, l4 (k + 1) xs a m b mid n st r p = if st < r then (if 0 ≤ wrap64 (p - hlf st r) then (if wrap64 (p - hlf st r) < (xs.length : Int) then (if 0 ≤ hlf st r then (if hlf st r < (xs.length : Int) then ((cmp (xs.getD (wrap64 (p - hlf st r)).toNat d) (xs.getD (hlf st r).toNat d)).bind fun t => (if t < 0 then l4 k xs a m b mid n st (hlf st r) p else l4 k xs a m b mid n (wrap64 (hlf st r + 1)) r p)) else none) else none) else none) else none)
    else (if st < m then j6 k xs a m b mid st (wrap64 (n - st)) (decide (m < wrap64 (n - st))) else j6 k xs a m b mid st (wrap64 (n - st)) false)
  ej6 : ∀ k xs a m b mid st en c, j6 (k + 1) xs a m b mid st en c = if c = true then ((r0 k xs m (wrap64 (m - st)) (wrap64 (en - m))).bind fun t => j7 k t a b mid st en) else j7 k xs a b mid st en
  ej7 : ∀ k xs a b mid st en, j7 (k + 1) xs a b mid st en = if a < st then j8 k xs a b mid st en (decide (st < mid)) else j8 k xs a b mid st en false
  ej8 : ∀ k xs a b mid st en c, j8 (k + 1) xs a b mid st en c = if c = true then ((f k xs a st mid).bind fun t => (if mid < en then (if en < b then ((f k t mid en b).bind fun u => some u) else some t) else some t)) else (if mid < en then (if en < b then ((f k xs mid en b).bind fun u => some u) else some xs) else some xs)
variable {s0 : Nat → List α → Int → Int → Int → Int → Option (List α)} {r0 : Nat → List α → Int → Int → Int → Option (List α)} {l0 : Nat → List α → Int → Int → Int → Option (List α)} {l1 : Nat → List α → Int → Int → Option (List α)} {l2 : Nat → List α → Int → Int → Int → Option (List α)} {l3 : Nat → List α → Int → Int → Option (List α)}
    {j4 : Nat → List α → Int → Int → Int → Int → Int → Int → Int → Option (List α)} {l4 : Nat → List α → Int → Int → Int → Int → Int → Int → Int → Int → Option (List α)} {j6 : Nat → List α → Int → Int → Int → Int → Int → Int → Bool → Option (List α)} {j7 : Nat → List α → Int → Int → Int → Int → Int → Option (List α)} {j8 : Nat → List α → Int → Int → Int → Int → Int → Bool → Option (List α)}
    {f : Nat → List α → Int → Int → Int → Option (List α)}
theorem hlf_ (x y : Int) (hx : 0 ≤ x) (hy : 0 ≤ y) (h : x + y < 9223372036854775808) : hlf x y = (x + y) / 2 := half_ x y hx hy h
theorem sy_l1 (hF : SyF d cmp r0 l0 l1 l2 l3 j4 l4 j6 j7 j8 f) (x : α) {i : Int} : ∀ (R pre rest : List α) (q : Int), q = pre.length → i = q + R.length + 1 → (pre ++ x :: (R ++ rest)).length < 1099511627776 →
    Ev (fun k => l1 k (pre ++ x :: (R ++ rest)) i q) (pre ++ R ++ x :: rest)
  | [], pre, rest, q, hq, hi, hl => by
    refine Ev.step (f := fun _ => some (pre ++ [] ++ x :: rest)) (fun k => ?_) (Ev.now _)
    simp at hi hl
    rw [hF.e1, wr_ _ (by omega) (by omega), if_neg (by omega)]
    simp
  | y :: R, pre, rest, q, hq, hi, hl => by
    have hlen : ((pre ++ x :: (y :: R ++ rest)).length : Int) = pre.length + R.length + 2 + rest.length := by simp; omega
    simp at hi hl
    have g1 : (pre ++ x :: (y :: R ++ rest)).getD q.toNat d = x := gt_ (d := d) pre (y :: R ++ rest) x q hq
    have g2 : (pre ++ x :: (y :: R ++ rest)).getD (q + 1).toNat d = y := by
      have := gt_ (d := d) (pre ++ [x]) (R ++ rest) y (q + 1) (by simp; omega)
      simpa using this
    have g3 : ((pre ++ x :: (y :: R ++ rest)).set q.toNat y).set (q + 1).toNat x = (pre ++ [y]) ++ x :: (R ++ rest) := by
      have := swp_ pre [] (R ++ rest) x y q (q + 1) hq (by simp; omega)
      simpa using this
    refine Ev.step (f := fun k => l1 k ((pre ++ [y]) ++ x :: (R ++ rest)) i (q + 1)) (fun k => by
      rw [hF.e1, wr_ (i - 1) (by omega) (by omega), if_pos (by omega), wr_ (q + 1) (by omega) (by omega), if_pos (by omega), if_pos (by rw [hlen]; omega), if_pos (by omega), if_pos (by rw [hlen]; omega), g1, g2, g3]) ?_
    have := sy_l1 hF x (i := i) R (pre ++ [y]) rest (q + 1) (by simp; omega) (by omega) (by simp; omega)
    simpa using this
theorem sy_l3 (hF : SyF d cmp r0 l0 l1 l2 l3 j4 l4 j6 j7 j8 f) (x : α) {i : Int} {pre : List α} (hi : i = pre.length) : ∀ (n : Nat) (R rest : List α) (q : Int), R.length = n → q = i + R.length → (pre ++ R ++ x :: rest).length < 1099511627776 →
    Ev (fun k => l3 k (pre ++ R ++ x :: rest) i q) (pre ++ x :: (R ++ rest))
  | 0, R, rest, q, hn, hq, hl => by
    have := eq_of_len0 hn
    subst this
    refine Ev.step (f := fun _ => some (pre ++ x :: ([] ++ rest))) (fun k => ?_) (Ev.now _)
    simp at hq
    rw [hF.e3, if_neg (by omega)]
    simp
  | n + 1, R, rest, q, hn, hq, hl => by
    obtain ⟨S, y, rfl⟩ : ∃ S y, R = S ++ [y] := ⟨R.dropLast, R.getLast (by intro e; simp [e] at hn), (List.dropLast_concat_getLast _).symm⟩
    have hlen : ((pre ++ (S ++ [y]) ++ x :: rest).length : Int) = pre.length + S.length + 2 + rest.length := by simp; omega
    simp at hn hq hl
    have g1 : (pre ++ (S ++ [y]) ++ x :: rest).getD q.toNat d = x := gt_ (d := d) (pre ++ (S ++ [y])) rest x q (by simp; omega)
    have g2 : (pre ++ (S ++ [y]) ++ x :: rest).getD (q - 1).toNat d = y := by
      have := gt_ (d := d) (pre ++ S) (x :: rest) y (q - 1) (by simp; omega)
      simpa using this
    have g3 : ((pre ++ (S ++ [y]) ++ x :: rest).set q.toNat y).set (q - 1).toNat x = pre ++ S ++ x :: (y :: rest) := by
      have := swp'_ (pre ++ S) [] rest y x (q - 1) q (by simp; omega) (by simp; omega)
      simpa using this
    refine Ev.step (f := fun k => l3 k (pre ++ S ++ x :: (y :: rest)) i (q - 1)) (fun k => by
      rw [hF.e3, if_pos (by omega), wr_ (q - 1) (by omega) (by omega), if_pos (by omega), if_pos (by rw [hlen]; omega), if_pos (by omega), if_pos (by rw [hlen]; omega), g1, g2, g3]) ?_
    have := sy_l3 hF x hi n S (y :: rest) (q - 1) hn (by omega) (by simp; omega)
    simpa using this
theorem sy_l0 (ht : TP le) (hcmp : Cmp le cmp) (hF : SyF d cmp r0 l0 l1 l2 l3 j4 l4 j6 j7 j8 f) {pre B post r : List α} {x : α} {a : Int} (ha : a = pre.length) (hl : (pre ++ x :: (B ++ post)).length < 1099511627776) (hB : Srt le B)
    (hk : ∀ C1 C2, B = C1 ++ C2 → (∀ z ∈ C1, le x z = false) → (∀ z ∈ C2, le x z = true) → Ev (fun k => l1 k (pre ++ x :: (B ++ post)) (a + 1 + C1.length) a) r) :
    ∀ (n : Nat) (B1 M B2 : List α) (i j : Int), M.length ≤ n → B = B1 ++ M ++ B2 → (∀ z ∈ B1, le x z = false) → (∀ z ∈ B2, le x z = true) → i = a + 1 + B1.length → j = i + M.length → Ev (fun k => l0 k (pre ++ x :: (B ++ post)) a i j) r
  | n, B1, [], B2, i, j, hn, hb, h1, h2, hi, hj => by
    refine Ev.step (f := fun k => l1 k (pre ++ x :: (B ++ post)) i a) (fun k => ?_) ?_
    · simp at hj
      rw [hF.e0, if_neg (by omega)]
    · have := hk B1 B2 (by simpa using hb) h1 h2
      rw [hi]; exact this
  | 0, B1, m :: M, B2, i, j, hn, hb, h1, h2, hi, hj => by simp at hn
  | n + 1, B1, m :: M, B2, i, j, hn, hb, h1, h2, hi, hj => by
    have hlen : ((pre ++ x :: (B ++ post)).length : Int) = pre.length + B1.length + (M.length + 1) + B2.length + 1 + post.length := by rw [hb]; simp; omega
    simp only [List.length_cons] at hn hj
    have hh : hlf i j = (i + j) / 2 := hlf_ i j (by omega) (by omega) (by omega)
    obtain ⟨M1, z, M2, hM, hM1⟩ : ∃ M1 z M2, m :: M = M1 ++ z :: M2 ∧ (M1.length : Int) = (i + j) / 2 - i := by
      have hlt : ((i + j) / 2 - i).toNat < (m :: M).length := by simp; omega
      refine ⟨(m :: M).take ((i + j) / 2 - i).toNat, (m :: M)[((i + j) / 2 - i).toNat], (m :: M).drop (((i + j) / 2 - i).toNat + 1), ?_, ?_⟩
      · rw [← List.drop_eq_getElem_cons hlt, List.take_append_drop]
      · rw [List.length_take]; simp; omega
    have hMl : (M1.length : Int) + 1 + M2.length = M.length + 1 := by have := congrArg List.length hM; simp at this; omega
    obtain ⟨t, c1, c2⟩ := hcmp z x
    have g1 : (pre ++ x :: (B ++ post)).getD ((i + j) / 2).toNat d = z := by
      have := gt_ (d := d) (pre ++ x :: (B1 ++ M1)) (M2 ++ B2 ++ post) z ((i + j) / 2) (by simp; omega)
      rw [hb, hM]; simpa using this
    have g2 : (pre ++ x :: (B ++ post)).getD a.toNat d = x := gt_ (d := d) pre (B ++ post) x a ha
    refine Ev.step (f := fun k => if t < 0 then l0 k (pre ++ x :: (B ++ post)) a ((i + j) / 2 + 1) j else l0 k (pre ++ x :: (B ++ post)) a i ((i + j) / 2)) (fun k => by
      rw [hF.e0, if_pos (by omega), hh, if_pos (by omega), if_pos (by rw [hlen]; omega), if_pos (by omega), if_pos (by rw [hlen]; omega), g1, g2, c1, wr_ ((i + j) / 2 + 1) (by omega) (by omega)]
      rfl) ?_
    have hs : Srt le (B1 ++ (M1 ++ z :: M2) ++ B2) := by rw [← hM, ← hb]; exact hB
    have hs1 := List.pairwise_append.1 hs
    have hs2 := List.pairwise_append.1 (List.pairwise_append.1 hs1.1).2.1
    have hs3 := List.pairwise_cons.1 hs2.2.1
    by_cases ht0 : t < 0
    · simp only [if_pos ht0]
      have hxz := c2.1 ht0
      refine sy_l0 ht hcmp hF ha hl hB hk n (B1 ++ (M1 ++ [z])) M2 B2 _ _ (by omega) (by rw [hb, hM]; simp) (fun u hu => ?_) h2 (by simp; omega) (by omega)
      rcases List.mem_append.1 hu with hu | hu
      · exact h1 u hu
      · have huz : le u z = true := by
          rcases List.mem_append.1 hu with hu | hu
          · exact hs2.2.2 u hu z (by simp)
          · simp at hu; subst hu; exact ht.refl _
        cases hxu : le x u
        · rfl
        · rw [ht.trans hxu huz] at hxz; cases hxz
    · simp only [if_neg ht0]
      have hxz : le x z = true := by
        cases h : le x z
        · exact absurd (c2.2 h) ht0
        · rfl
      refine sy_l0 ht hcmp hF ha hl hB hk n B1 M1 (z :: M2 ++ B2) _ _ (by omega) (by rw [hb, hM]; simp) h1 (fun u hu => ?_) hi (by omega)
      rcases List.mem_append.1 hu with hu | hu
      · rcases List.mem_cons.1 hu with rfl | hu
        · exact hxz
        · exact ht.trans hxz (hs3.1 u hu)
      · exact h2 u hu
theorem sy_l2 (ht : TP le) (hcmp : Cmp le cmp) (hF : SyF d cmp r0 l0 l1 l2 l3 j4 l4 j6 j7 j8 f) {pre B post r : List α} {x : α} {a m : Int} (ha : a = pre.length) (hm : m = a + B.length) (hl : (pre ++ B ++ x :: post).length < 1099511627776) (hB : Srt le B)
    (hk : ∀ C1 C2, B = C1 ++ C2 → (∀ z ∈ C1, le z x = true) → (∀ z ∈ C2, le z x = false) → Ev (fun k => l3 k (pre ++ B ++ x :: post) (a + C1.length) m) r) :
    ∀ (n : Nat) (B1 M B2 : List α) (i j : Int), M.length ≤ n → B = B1 ++ M ++ B2 → (∀ z ∈ B1, le z x = true) → (∀ z ∈ B2, le z x = false) → i = a + B1.length → j = i + M.length → Ev (fun k => l2 k (pre ++ B ++ x :: post) m i j) r
  | n, B1, [], B2, i, j, hn, hb, h1, h2, hi, hj => by
    refine Ev.step (f := fun k => l3 k (pre ++ B ++ x :: post) i m) (fun k => ?_) ?_
    · simp at hj
      rw [hF.e2, if_neg (by omega)]
    · have := hk B1 B2 (by simpa using hb) h1 h2
      rw [hi]; exact this
  | 0, B1, m' :: M, B2, i, j, hn, hb, h1, h2, hi, hj => by simp at hn
  | n + 1, B1, m' :: M, B2, i, j, hn, hb, h1, h2, hi, hj => by
    have hlen : ((pre ++ B ++ x :: post).length : Int) = pre.length + B1.length + (M.length + 1) + B2.length + 1 + post.length := by rw [hb]; simp; omega
    have hBl : (B.length : Int) = B1.length + (M.length + 1) + B2.length := by rw [hb]; simp; omega
    simp only [List.length_cons] at hn hj
    have hh : hlf i j = (i + j) / 2 := hlf_ i j (by omega) (by omega) (by omega)
    obtain ⟨M1, z, M2, hM, hM1⟩ : ∃ M1 z M2, m' :: M = M1 ++ z :: M2 ∧ (M1.length : Int) = (i + j) / 2 - i := by
      have hlt : ((i + j) / 2 - i).toNat < (m' :: M).length := by simp; omega
      refine ⟨(m' :: M).take ((i + j) / 2 - i).toNat, (m' :: M)[((i + j) / 2 - i).toNat], (m' :: M).drop (((i + j) / 2 - i).toNat + 1), ?_, ?_⟩
      · rw [← List.drop_eq_getElem_cons hlt, List.take_append_drop]
      · rw [List.length_take]; simp; omega
    have hMl : (M1.length : Int) + 1 + M2.length = M.length + 1 := by have := congrArg List.length hM; simp at this; omega
    obtain ⟨t, c1, c2⟩ := hcmp x z
    have g1 : (pre ++ B ++ x :: post).getD ((i + j) / 2).toNat d = z := by
      have := gt_ (d := d) (pre ++ (B1 ++ M1)) (M2 ++ B2 ++ x :: post) z ((i + j) / 2) (by simp; omega)
      rw [hb, hM]; simpa using this
    have g2 : (pre ++ B ++ x :: post).getD m.toNat d = x := gt_ (d := d) (pre ++ B) post x m (by simp; omega)
    refine Ev.step (f := fun k => if t < 0 then l2 k (pre ++ B ++ x :: post) m i ((i + j) / 2) else l2 k (pre ++ B ++ x :: post) m ((i + j) / 2 + 1) j) (fun k => by
      rw [hF.e2, if_pos (by omega), hh, if_pos (by omega), if_pos (by rw [hlen]; omega), if_pos (by omega), if_pos (by rw [hlen]; omega), g1, g2, c1, wr_ ((i + j) / 2 + 1) (by omega) (by omega)]
      rfl) ?_
    have hs : Srt le (B1 ++ (M1 ++ z :: M2) ++ B2) := by rw [← hM, ← hb]; exact hB
    have hs1 := List.pairwise_append.1 hs
    have hs2 := List.pairwise_append.1 (List.pairwise_append.1 hs1.1).2.1
    have hs3 := List.pairwise_cons.1 hs2.2.1
    by_cases ht0 : t < 0
    · simp only [if_pos ht0]
      have hxz := c2.1 ht0
      refine sy_l2 ht hcmp hF ha hm hl hB hk n B1 M1 (z :: M2 ++ B2) _ _ (by omega) (by rw [hb, hM]; simp) h1 (fun u hu => ?_) hi (by omega)
      rcases List.mem_append.1 hu with hu | hu
      · rcases List.mem_cons.1 hu with rfl | hu
        · exact hxz
        · cases hux : le u x
          · rfl
          · rw [ht.trans (hs3.1 u hu) hux] at hxz; cases hxz
      · exact h2 u hu
    · simp only [if_neg ht0]
      have hxz : le z x = true := by
        cases h : le z x
        · exact absurd (c2.2 h) ht0
        · rfl
      refine sy_l2 ht hcmp hF ha hm hl hB hk n (B1 ++ (M1 ++ [z])) M2 B2 _ _ (by omega) (by rw [hb, hM]; simp) (fun u hu => ?_) h2 (by simp; omega) (by omega)
      rcases List.mem_append.1 hu with hu | hu
      · exact h1 u hu
      · rcases List.mem_append.1 hu with hu | hu
        · exact ht.trans (hs2.2.2 u hu z (by simp)) hxz
        · simp at hu; subst hu; exact hxz
end SortC
section SortD
variable {α : Type} {d : α} {le : α → α → Bool} {cmp : α → α → Option Int}
variable {s0 : Nat → List α → Int → Int → Int → Int → Option (List α)} {r0 : Nat → List α → Int → Int → Int → Option (List α)} {l0 : Nat → List α → Int → Int → Int → Option (List α)} {l1 : Nat → List α → Int → Int → Option (List α)} {l2 : Nat → List α → Int → Int → Int → Option (List α)} {l3 : Nat → List α → Int → Int → Option (List α)}
    {j4 : Nat → List α → Int → Int → Int → Int → Int → Int → Int → Option (List α)} {l4 : Nat → List α → Int → Int → Int → Int → Int → Int → Int → Int → Option (List α)} {j6 : Nat → List α → Int → Int → Int → Int → Int → Int → Bool → Option (List α)} {j7 : Nat → List α → Int → Int → Int → Int → Int → Option (List α)} {j8 : Nat → List α → Int → Int → Int → Int → Int → Bool → Option (List α)}
    {f : Nat → List α → Int → Int → Int → Option (List α)}
theorem sy_l4 (hcmp : Cmp le cmp) (hF : SyF d cmp r0 l0 l1 l2 l3 j4 l4 j6 j7 j8 f) {xs r : List α} {a m b mid nn p s1 s2 : Int} (hl : xs.length < 1099511627776) (h0 : 0 ≤ s1) (h2 : s2 ≤ xs.length)
    (hp : ∀ c, s1 ≤ c → c < s2 → 0 ≤ p - c ∧ p - c < xs.length)
    (hmono : ∀ c e, s1 ≤ c → c ≤ e → e < s2 → le (xs.getD c.toNat d) (xs.getD (p - c).toNat d) = false → le (xs.getD e.toNat d) (xs.getD (p - e).toNat d) = false)
    (hk : ∀ st, s1 ≤ st → st ≤ s2 → (s1 < st → le (xs.getD (st - 1).toNat d) (xs.getD (p - (st - 1)).toNat d) = true) → (st < s2 → le (xs.getD st.toNat d) (xs.getD (p - st).toNat d) = false) →
      Ev (fun k => if st < m then j6 k xs a m b mid st (wrap64 (nn - st)) (decide (m < wrap64 (nn - st))) else j6 k xs a m b mid st (wrap64 (nn - st)) false) r) :
    ∀ (n : Nat) (st e : Int), s1 ≤ st → st ≤ e → e ≤ s2 → (e - st).toNat ≤ n → (s1 < st → le (xs.getD (st - 1).toNat d) (xs.getD (p - (st - 1)).toNat d) = true) → (e < s2 → le (xs.getD e.toNat d) (xs.getD (p - e).toNat d) = false) →
    Ev (fun k => l4 k xs a m b mid nn st e p) r := by
  intro n
  induction n with
  | zero =>
    intro st e q1 q2 q3 q4 q5 q6
    have : st = e := by omega
    subst this
    exact Ev.step (fun k => by rw [hF.e4, if_neg (by omega)]) (hk st q1 q3 q5 q6)
  | succ n ih =>
    intro st e q1 q2 q3 q4 q5 q6
    by_cases hse : st = e
    · subst hse
      exact Ev.step (fun k => by rw [hF.e4, if_neg (by omega)]) (hk st q1 q3 q5 q6)
    have hh : hlf st e = (st + e) / 2 := hlf_ st e (by omega) (by omega) (by omega)
    obtain ⟨c, hc⟩ : ∃ c, (st + e) / 2 = c := ⟨_, rfl⟩
    have hc1 : st ≤ c := by omega
    have hc2 : c < e := by omega
    have hpc := hp c (by omega) (by omega)
    obtain ⟨t, c1, c2⟩ := hcmp (xs.getD (p - c).toNat d) (xs.getD c.toNat d)
    refine Ev.step (f := fun k => if t < 0 then l4 k xs a m b mid nn st c p else l4 k xs a m b mid nn (c + 1) e p) (fun k => by
      rw [hF.e4, if_pos (by omega), hh, hc, wr_ (p - c) (by omega) (by omega), if_pos (by omega), if_pos (by omega), if_pos (by omega), if_pos (by omega), c1, wr_ (c + 1) (by omega) (by omega)]
      rfl) ?_
    by_cases ht0 : t < 0
    · simp only [if_pos ht0]
      exact ih st c q1 hc1 (by omega) (by omega) q5 (fun _ => c2.1 ht0)
    · simp only [if_neg ht0]
      refine ih (c + 1) e (by omega) (by omega) q3 (by omega) (fun _ => ?_) q6
      rw [show c + 1 - 1 = c by omega]
      cases h : le (xs.getD c.toNat d) (xs.getD (p - c).toNat d)
      · exact absurd (c2.2 h) ht0
      · rfl
theorem gA_ (pre A rest : List α) (c : Int) (i : Nat) (h : i < A.length) (hc : c = pre.length + i) : (pre ++ A ++ rest).getD c.toNat d = A[i] := by
  subst hc
  rw [List.getD_eq_getElem?_getD, show ((pre.length : Int) + (i : Int)).toNat = pre.length + i by omega, List.append_assoc, List.getElem?_append_right (by omega), show pre.length + i - pre.length = i by omega, List.getElem?_append_left h, List.getElem?_eq_getElem h]
  rfl
theorem srt_get {A : List α} (h : Srt le A) (ht : TP le) {i j : Nat} (hij : i ≤ j) (hj : j < A.length) : le (A[i]'(by omega)) A[j] = true := by
  rcases Nat.lt_or_eq_of_le hij with h1 | rfl
  · exact (List.pairwise_iff_getElem.1 h) i j (by omega) hj h1
  · exact ht.refl _
theorem sy_f (ht : TP le) (hcmp : Cmp le cmp) (hS : SwF d s0) (hR : RoF s0 r0) (hF : SyF d cmp r0 l0 l1 l2 l3 j4 l4 j6 j7 j8 f) : ∀ (n : Nat) (A B pre post : List α) (a m b : Int), A.length + B.length ≤ n → 0 < A.length → 0 < B.length → a = pre.length → m = a + A.length → b = m + B.length →
    (pre ++ A ++ B ++ post).length < 1099511627776 → Srt le A → Srt le B → Ev (fun k => f k (pre ++ A ++ B ++ post) a m b) (pre ++ isort le (A ++ B) ++ post) := by
  intro n
  induction n with
  | zero => intro A B pre post a m b hn hA hB; omega
  | succ n ih =>
  intro A B pre post a m b hn hA hB ha hm hb hl sA sB
  have hlen : ((pre ++ A ++ B ++ post).length : Int) = pre.length + A.length + B.length + post.length := by simp; omega
  have hl' := hl
  simp only [List.length_append] at hl'
  by_cases hA1 : A.length = 1
  · -- one element, then the second part
    obtain ⟨x, rfl⟩ : ∃ x, A = [x] := by
      match A, hA1 with
      | [x], _ => exact ⟨x, rfl⟩
    have e1 : pre ++ [x] ++ B ++ post = pre ++ x :: (B ++ post) := by simp
    rw [e1] at hl ⊢
    simp at hm
    refine Ev.step (f := fun k => l0 k (pre ++ x :: (B ++ post)) a m b) (fun k => by
      rw [hF.ef, wr_ (m - a) (by omega) (by omega), if_pos (by omega)]) ?_
    refine sy_l0 ht hcmp hF ha hl sB (fun C1 C2 hC h1 h2 => ?_) B.length [] B [] m b (by omega) (by simp) (by simp) (by simp) (by simp; omega) (by omega)
    subst hC
    have h3 := sy_l1 hF x (i := a + 1 + C1.length) C1 pre (C2 ++ post) a ha (by omega) (by simp at hl ⊢; omega)
    have h4 : C1 ++ x :: C2 = isort le ([x] ++ (C1 ++ C2)) := by
      have hs := List.pairwise_append.1 sB
      refine isort_eq ht (List.pairwise_append.2 ⟨hs.1, List.pairwise_cons.2 ⟨h2, hs.2.1⟩, fun p hp q hq => ?_⟩) ?_
      · rcases List.mem_cons.1 hq with rfl | hq
        · exact ht.of_not (h1 p hp)
        · exact hs.2.2 p hp q hq
      · have := SEq.append (SEq.swap ht (A := [x]) (B := C1) (fun p hp q hq => by simp at hp; subst hp; exact h1 q hq)).symm (SEq.refl C2)
        simpa using this
    rw [← h4]
    simpa using h3
  by_cases hB1 : B.length = 1
  · obtain ⟨x, rfl⟩ : ∃ x, B = [x] := by
      match B, hB1 with
      | [x], _ => exact ⟨x, rfl⟩
    have e1 : pre ++ A ++ [x] ++ post = pre ++ A ++ x :: post := by simp
    rw [e1] at hl ⊢
    simp at hb
    refine Ev.step (f := fun k => l2 k (pre ++ A ++ x :: post) m a m) (fun k => by
      rw [hF.ef, wr_ (m - a) (by omega) (by omega), if_neg (by omega), wr_ (b - m) (by omega) (by omega), if_pos (by omega)]) ?_
    refine sy_l2 ht hcmp hF ha hm hl sA (fun C1 C2 hC h1 h2 => ?_) A.length [] A [] a m (by omega) (by simp) (by simp) (by simp) (by simp) (by omega)
    subst hC
    have h3 := sy_l3 hF x (i := a + C1.length) (pre := pre ++ C1) (by simp; omega) C2.length C2 post m rfl (by simp at hm; omega) (by simp at hl ⊢; omega)
    have h4 : C1 ++ x :: C2 = isort le ((C1 ++ C2) ++ [x]) := by
      have hs := List.pairwise_append.1 sA
      refine isort_eq ht (List.pairwise_append.2 ⟨hs.1, List.pairwise_cons.2 ⟨fun z hz => ht.of_not (h2 z hz), hs.2.1⟩, fun p hp q hq => ?_⟩) ?_
      · rcases List.mem_cons.1 hq with rfl | hq
        · exact h1 p hp
        · exact hs.2.2 p hp q hq
      · have := SEq.append (SEq.refl C1) (SEq.swap ht (A := C2) (B := [x]) (fun p hp q hq => by simp at hq; subst hq; exact h2 p hp)).symm
        simpa using this
    rw [← h4]
    simpa using h3
  -- the general case
  have hh : hlf a b = (a + b) / 2 := hlf_ a b (by omega) (by omega) (by omega)
  obtain ⟨mid, hmid⟩ : ∃ mid, (a + b) / 2 = mid := ⟨_, rfl⟩
  have hmid1 : a < mid := by omega
  have hmid2 : mid < b := by omega
  obtain ⟨xs, hxs⟩ : ∃ xs, xs = pre ++ A ++ B ++ post := ⟨_, rfl⟩
  have hxl : (xs.length : Int) = pre.length + A.length + B.length + post.length := by rw [hxs]; exact hlen
  have getA : ∀ (c : Int) (i : Nat) (h : i < A.length), c = a + i → xs.getD c.toNat d = A[i] := fun c i h hc => by
    rw [hxs, List.append_assoc (pre ++ A)]; exact gA_ pre A (B ++ post) c i h (by omega)
  have getB : ∀ (c : Int) (i : Nat) (h : i < B.length), c = m + i → xs.getD c.toNat d = B[i] := fun c i h hc => by
    rw [hxs]; exact gA_ (pre ++ A) B post c i h (by simp; omega)
  have leA : ∀ c e : Int, a ≤ c → c ≤ e → e < m → le (xs.getD c.toNat d) (xs.getD e.toNat d) = true := fun c e h1 h2 h3 => by
    rw [getA c (c - a).toNat (by omega) (by omega), getA e (e - a).toNat (by omega) (by omega)]
    exact srt_get sA ht (by omega) (by omega)
  have leB : ∀ c e : Int, m ≤ c → c ≤ e → e < b → le (xs.getD c.toNat d) (xs.getD e.toNat d) = true := fun c e h1 h2 h3 => by
    rw [getB c (c - m).toNat (by omega) (by omega), getB e (e - m).toNat (by omega) (by omega)]
    exact srt_get sB ht (by omega) (by omega)
  -- what follows the search
  have follow : ∀ st : Int, a ≤ st → st ≤ m → m ≤ mid + m - st → mid + m - st ≤ b → (a < st → mid + m - st < b → le (xs.getD (st - 1).toNat d) (xs.getD (mid + m - st).toNat d) = true) → (st < m → m < mid + m - st → le (xs.getD st.toNat d) (xs.getD (mid + m - 1 - st).toNat d) = false) →
      Ev (fun k => if st < m then j6 k xs a m b mid st (wrap64 (mid + m - st)) (decide (m < wrap64 (mid + m - st))) else j6 k xs a m b mid st (wrap64 (mid + m - st)) false) (pre ++ isort le (A ++ B) ++ post) := by
    intro st q1 q2 q3 q4 q5 q6
    rw [wr_ (mid + m - st) (by omega) (by omega)]
    obtain ⟨en, hen⟩ : ∃ en, mid + m - st = en := ⟨_, rfl⟩
    rw [hen] at q3 q4 q5 q6 ⊢
    rw [show mid + m - 1 - st = en - 1 by omega] at q6
    obtain ⟨A1, A2, hA12, hA1l⟩ : ∃ A1 A2, A = A1 ++ A2 ∧ (A1.length : Int) = st - a := ⟨A.take (st - a).toNat, A.drop (st - a).toNat, (List.take_append_drop _ _).symm, by rw [List.length_take]; omega⟩
    obtain ⟨B1, B2, hB12, hB1l⟩ : ∃ B1 B2, B = B1 ++ B2 ∧ (B1.length : Int) = en - m := ⟨B.take (en - m).toNat, B.drop (en - m).toNat, (List.take_append_drop _ _).symm, by rw [List.length_take]; omega⟩
    have lA : (A.length : Int) = A1.length + A2.length := by rw [hA12]; simp
    have lB : (B.length : Int) = B1.length + B2.length := by rw [hB12]; simp
    have sA' := List.pairwise_append.1 (hA12 ▸ sA)
    have sB' := List.pairwise_append.1 (hB12 ▸ sB)
    -- each of A1 is at most each of B2
    have hAB : ∀ p ∈ A1, ∀ q ∈ B2, le p q = true := by
      intro p hp q hq
      obtain ⟨i, hi, rfl⟩ := List.getElem_of_mem hp
      obtain ⟨j, hj, rfl⟩ := List.getElem_of_mem hq
      have h1 := q5 (by omega) (by omega)
      have h2 := leA (a + i) (st - 1) (by omega) (by omega) (by omega)
      have h3 := leB en (en + j) (by omega) (by omega) (by omega)
      rw [getA (a + i) i (by omega) rfl] at h2
      rw [getB (en + j) (B1.length + j) (by omega) (by omega)] at h3
      have e1 : A[i]'(by omega) = A1[i] := by simp only [hA12]; exact List.getElem_append_left hi
      have e2 : B[B1.length + j]'(by omega) = B2[j] := by simp only [hB12]; rw [List.getElem_append_right (by omega)]; simp
      rw [e1] at h2; rw [e2] at h3
      exact ht.trans (ht.trans h2 h1) h3
    -- each of B1 is below each of A2
    have hBA : ∀ p ∈ A2, ∀ q ∈ B1, le p q = false := by
      intro p hp q hq
      obtain ⟨i, hi, rfl⟩ := List.getElem_of_mem hp
      obtain ⟨j, hj, rfl⟩ := List.getElem_of_mem hq
      have h1 := q6 (by omega) (by omega)
      have h2 := leA st (st + i) (by omega) (by omega) (by omega)
      have h3 := leB (m + j) (en - 1) (by omega) (by omega) (by omega)
      rw [getA (st + i) (A1.length + i) (by omega) (by omega)] at h2
      rw [getB (m + j) j (by omega) rfl] at h3
      have e1 : A[A1.length + i]'(by omega) = A2[i] := by simp only [hA12]; rw [List.getElem_append_right (by omega)]; simp
      have e2 : B[j]'(by omega) = B1[j] := by simp only [hB12]; exact List.getElem_append_left hj
      rw [e1] at h2; rw [e2] at h3
      cases h : le A2[i] B1[j]
      · rfl
      · rw [ht.trans (ht.trans h2 h) h3] at h1; cases h1
    -- the two halves, each put in order
    have hfin : isort le (A1 ++ B1) ++ isort le (A2 ++ B2) = isort le (A ++ B) := by
      refine isort_eq ht (List.pairwise_append.2 ⟨isort_srt ht _, isort_srt ht _, fun p hp q hq => ?_⟩) ?_
      · have hp := (isort_perm (le := le) _).mem_iff.1 hp
        have hq := (isort_perm (le := le) _).mem_iff.1 hq
        rcases List.mem_append.1 hp with hp | hp <;> rcases List.mem_append.1 hq with hq | hq
        · exact sA'.2.2 p hp q hq
        · exact hAB p hp q hq
        · exact ht.of_not (hBA q hq p hp)
        · exact sB'.2.2 p hp q hq
      · have h1 := SEq.append (isort_seq ht (A1 ++ B1)) (isort_seq ht (A2 ++ B2))
        have h2 := SEq.append (SEq.append (SEq.refl A1) (SEq.swap ht hBA).symm) (SEq.refl B2)
        refine h1.trans ?_
        rw [hA12, hB12]
        simpa using h2
    -- the last two calls
    have last : ∀ ys, ys = pre ++ A1 ++ B1 ++ A2 ++ B2 ++ post → Ev (fun k => j7 k ys a b mid st en) (pre ++ isort le (A ++ B) ++ post) := by
      intro ys hys
      have hyl : (ys.length : Int) = xs.length := by rw [hys, hxl]; simp; omega
      -- the second call
      have sec : ∀ zs, zs = pre ++ isort le (A1 ++ B1) ++ A2 ++ B2 ++ post → Ev (fun k => if mid < en then (if en < b then ((f k zs mid en b).bind fun u => some u) else some zs) else some zs) (pre ++ isort le (A ++ B) ++ post) := by
        intro zs hzs
        have hil : ((isort le (A1 ++ B1)).length : Int) = A1.length + B1.length := by rw [isort_len]; simp
        by_cases h1 : mid < en
        · by_cases h2 : en < b
          · simp only [if_pos h1, if_pos h2]
            have h3 := ih A2 B2 (pre ++ isort le (A1 ++ B1)) post mid en b (by omega) (by omega) (by omega) (by simp; omega) (by omega) (by omega) (by simp; omega) sA'.2.1 sB'.2.1
            have h4 : zs = (pre ++ isort le (A1 ++ B1)) ++ A2 ++ B2 ++ post := by rw [hzs]
            refine Ev.bind (a := pre ++ isort le (A ++ B) ++ post) ?_ (Ev.now _)
            rw [h4, ← hfin]
            simpa using h3
          · have hB2 : B2 = [] := eq_of_len0 (by omega)
            simp only [if_pos h1, if_neg h2]
            have h5 : zs = pre ++ isort le (A ++ B) ++ post := by
              rw [hzs, ← hfin, hB2, srt_isort ht (xs := A2 ++ []) (by simpa using sA'.2.1)]; simp
            rw [h5]; exact Ev.now _
        · have hA2 : A2 = [] := eq_of_len0 (by omega)
          simp only [if_neg h1]
          have h5 : zs = pre ++ isort le (A ++ B) ++ post := by
            rw [hzs, ← hfin, hA2, srt_isort ht (xs := [] ++ B2) (by simpa using sB'.2.1)]; simp
          rw [h5]; exact Ev.now _
      refine Ev.step (f := fun k => j8 k ys a b mid st en (decide (a < st ∧ st < mid))) (fun k => by
        rw [hF.ej7]
        by_cases h1 : a < st
        · rw [if_pos h1]; simp [h1]
        · rw [if_neg h1]; simp [h1]) ?_
      by_cases h1 : a < st ∧ st < mid
      · rw [decide_eq_true h1]
        refine Ev.step (fun k => by rw [hF.ej8, if_pos rfl]) ?_
        have h3 := ih A1 B1 pre (A2 ++ B2 ++ post) a st mid (by omega) (by omega) (by omega) ha (by omega) (by omega) (by simp; omega) sA'.1 sB'.1
        refine Ev.bind (a := pre ++ isort le (A1 ++ B1) ++ A2 ++ B2 ++ post) ?_ (sec _ rfl)
        rw [hys]
        simpa using h3
      · rw [decide_eq_false h1]
        refine Ev.step (fun k => by rw [hF.ej8, if_neg (by simp)]) (sec _ ?_)
        have : isort le (A1 ++ B1) = A1 ++ B1 := by
          refine srt_isort ht ?_
          by_cases h2 : a < st
          · have hB1 : B1 = [] := eq_of_len0 (by omega)
            rw [hB1]; simpa using sA'.1
          · have hA1 : A1 = [] := eq_of_len0 (by omega)
            rw [hA1]; simpa using sB'.1
        rw [hys, this]
        simp
    by_cases h1 : st < m ∧ m < en
    · have e1 : ∀ k, (if st < m then j6 k xs a m b mid st en (decide (m < en)) else j6 k xs a m b mid st en false) = j6 k xs a m b mid st en true := fun k => by rw [if_pos h1.1, decide_eq_true h1.2]
      refine Ev.congr e1 (Ev.step (fun k => by rw [hF.ej6, if_pos rfl, wr_ (m - st) (by omega) (by omega), wr_ (en - m) (by omega) (by omega)]) ?_)
      have h3 := ro_l0 hS hR (m := m) (A2.length + B1.length) A2 B1 (pre ++ A1) (B2 ++ post) (m - st) (en - m) (Nat.le_refl _) (by omega) (by omega) (by simp; omega) (by omega) (by omega) (by simp; omega)
      refine Ev.bind (a := pre ++ A1 ++ B1 ++ A2 ++ B2 ++ post) ?_ (last _ rfl)
      rw [hxs, hA12, hB12]
      simpa using h3
    · have e1 : ∀ k, (if st < m then j6 k xs a m b mid st en (decide (m < en)) else j6 k xs a m b mid st en false) = j6 k xs a m b mid st en false := fun k => by
        by_cases h2 : st < m
        · rw [if_pos h2, decide_eq_false (fun h3 => h1 ⟨h2, h3⟩)]
        · rw [if_neg h2]
      refine Ev.congr e1 (Ev.step (fun k => by rw [hF.ej6, if_neg (by simp)]) (last _ ?_))
      rw [hxs, hA12, hB12]
      by_cases h2 : st < m
      · have hB1 : B1 = [] := eq_of_len0 (by omega)
        rw [hB1]; simp
      · have hA2 : A2 = [] := eq_of_len0 (by omega)
        rw [hA2]; simp
  rw [← hxs]
  have hp : ∀ s1 s2 : Int, a ≤ s1 → s2 ≤ m → m ≤ mid + m - s2 → mid + m - s1 ≤ b → s1 ≤ s2 → (s1 = a ∨ mid + m - s1 = b) → (s2 = m ∨ mid + m - s2 = m) → Ev (fun k => l4 k xs a m b mid (mid + m) s1 s2 (mid + m - 1)) (pre ++ isort le (A ++ B) ++ post) := by
    intro s1 s2 q1 q2 q3 q4 q5 q6 q7
    refine sy_l4 hcmp hF (by omega) (by omega) (by omega) (fun c h1 h2 => by omega) (fun c e h1 h2 h3 h4 => ?_) (fun st h1 h2 h3 h4 => ?_) (s2 - s1).toNat s1 s2 (Int.le_refl _) q5 (Int.le_refl _) (Nat.le_refl _) (fun h => by omega) (fun h => by omega)
    · have g1 := leA c e (by omega) h2 (by omega)
      have g2 := leB (mid + m - 1 - e) (mid + m - 1 - c) (by omega) (by omega) (by omega)
      cases h : le (xs.getD e.toNat d) (xs.getD (mid + m - 1 - e).toNat d)
      · rfl
      · rw [ht.trans (ht.trans g1 h) g2] at h4; cases h4
    · refine follow st (by omega) (by omega) (by omega) (by omega) (fun h5 h6 => ?_) (fun h5 h6 => ?_)
      · have := h3 (by omega)
        rw [show mid + m - 1 - (st - 1) = mid + m - st by omega] at this
        exact this
      · exact h4 (by omega)
  by_cases hmm : m > mid
  · refine Ev.step (f := fun k => j4 k xs a m b mid (mid + m) (mid + m - b) mid) (fun k => by
      rw [hF.ef, wr_ (m - a) (by omega) (by omega), if_neg (by omega), wr_ (b - m) (by omega) (by omega), if_neg (by omega), hh, hmid, if_pos hmm, wr_ (mid + m) (by omega) (by omega), wr_ (mid + m - b) (by omega) (by omega)]) ?_
    refine Ev.step (f := fun k => l4 k xs a m b mid (mid + m) (mid + m - b) mid (mid + m - 1)) (fun k => by
      rw [hF.ej4, wr_ (mid + m - 1) (by omega) (by omega)]) ?_
    exact hp _ _ (by omega) (by omega) (by omega) (by omega) (by omega) (by omega) (by omega)
  · refine Ev.step (f := fun k => j4 k xs a m b mid (mid + m) a m) (fun k => by
      rw [hF.ef, wr_ (m - a) (by omega) (by omega), if_neg (by omega), wr_ (b - m) (by omega) (by omega), if_neg (by omega), hh, hmid, if_neg hmm, wr_ (mid + m) (by omega) (by omega)]) ?_
    refine Ev.step (f := fun k => l4 k xs a m b mid (mid + m) a m (mid + m - 1)) (fun k => by
      rw [hF.ej4, wr_ (mid + m - 1) (by omega) (by omega)]) ?_
    exact hp _ _ (by omega) (by omega) (by omega) (by omega) (by omega) (by omega) (by omega)
end SortD
section SortE
variable {α : Type} {d : α} {le : α → α → Bool} {cmp : α → α → Option Int}
variable {i0 : Nat → List α → Int → Int → Int → Option (List α)} {i1 : Nat → List α → Int → Int → Int → Int → Option (List α)} {s0 : Nat → List α → Int → Int → Int → Int → Option (List α)} {r0 : Nat → List α → Int → Int → Int → Option (List α)} {l0 : Nat → List α → Int → Int → Int → Option (List α)} {l1 : Nat → List α → Int → Int → Option (List α)} {l2 : Nat → List α → Int → Int → Int → Option (List α)} {l3 : Nat → List α → Int → Int → Option (List α)}
    {j4 : Nat → List α → Int → Int → Int → Int → Int → Int → Int → Option (List α)} {l4 : Nat → List α → Int → Int → Int → Int → Int → Int → Int → Int → Option (List α)} {j6 : Nat → List α → Int → Int → Int → Int → Int → Int → Bool → Option (List α)} {j7 : Nat → List α → Int → Int → Int → Int → Int → Option (List α)} {j8 : Nat → List α → Int → Int → Int → Int → Int → Bool → Option (List α)}
    {f : Nat → List α → Int → Int → Int → Option (List α)}
structure StF (i0 : Nat → List α → Int → Int → Int → Option (List α)) (f : Nat → List α → Int → Int → Int → Option (List α)) (t0 : Nat → List α → Int → Int → Int → Int → Option (List α)) (t1 : Nat → List α → Int → Int → Option (List α)) (t2 : Nat → List α → Int → Int → Int → Int → Option (List α)) : Prop where
  e0 : ∀ k xs n s a b, t0 (k + 1) xs n s a b = if b ≤ n then ((i0 k xs a b (wrap64 (a + 1))).bind fun t => t0 k t n s b (wrap64 (b + s))) else ((i0 k xs a n (wrap64 (a + 1))).bind fun t => t1 k t n s)
  e1 : ∀ k xs n s, t1 (k + 1) xs n s = if s < n then t2 k xs n s 0 (wrap64 (2 * s)) else some xs
  e2 : ∀ k xs n s a b, t2 (k + 1) xs n s a b = if b ≤ n then ((f k xs a (wrap64 (a + s)) b).bind fun t => t2 k t n s b (wrap64 (b + wrap64 (2 * s)))) else (if wrap64 (a + s) < n then ((f k xs a (wrap64 (a + s)) n).bind fun t => t1 k t n (wrap64 (s * 2))) else t1 k xs n (wrap64 (s * 2)))
variable {t0 : Nat → List α → Int → Int → Int → Int → Option (List α)} {t1 : Nat → List α → Int → Int → Option (List α)} {t2 : Nat → List α → Int → Int → Int → Int → Option (List α)}
inductive Blk (le : α → α → Bool) (s : Nat) : List α → Prop
  | last {xs : List α} : xs.length ≤ s → Srt le xs → Blk le s xs
  | more {B R : List α} : B.length = s → Srt le B → Blk le s R → Blk le s (B ++ R)
theorem Blk.srt {s : Nat} : ∀ {xs : List α}, Blk le s xs → xs.length ≤ s → Srt le xs
  | _, .last _ h, _ => h
  | _, .more (B := B) (R := R) hB h hR, hl => by
    have : R = [] := eq_of_len0 (by simp at hl; omega)
    rw [this]; simpa using h
theorem Blk.split {s : Nat} {xs : List α} (h : Blk le s xs) (hl : s < xs.length) : ∃ B R, xs = B ++ R ∧ B.length = s ∧ Srt le B ∧ Blk le s R := by
  cases h with
  | last h1 h2 => omega
  | more h1 h2 h3 => exact ⟨_, _, rfl, h1, h2, h3⟩
theorem stl_l2 (ht : TP le) (hcmp : Cmp le cmp) (hS : SwF d s0) (hR : RoF s0 r0) (hF : SyF d cmp r0 l0 l1 l2 l3 j4 l4 j6 j7 j8 f) (hT : StF i0 f t0 t1 t2) {n s : Nat} (hs : 0 < s) (hn : n < 1099511627776) (hs2 : s < 1099511627776) {r : List α} {zs : List α}
    (hk : ∀ ys : List α, ys.length = n → SEq le ys zs → Blk le (2 * s) ys → Ev (fun k => t1 k ys n ((s : Int) * 2)) r) : ∀ (c : Nat) (pre R : List α) (a b : Int), R.length ≤ c → a = pre.length → b = a + 2 * s → (pre ++ R).length = n → SEq le (pre ++ R) zs → Blk le s R →
      (∀ R', Blk le (2 * s) R' → Blk le (2 * s) (pre ++ R')) → Ev (fun k => t2 k (pre ++ R) n s a b) r := by
  intro c
  induction c with
  | zero =>
    intro pre R a b hc ha hb hl hz hB hP
    have hR0 : R = [] := eq_of_len0 (by omega)
    subst hR0
    simp at hl
    refine Ev.step (f := fun k => t1 k (pre ++ []) n ((s : Int) * 2)) (fun k => by
      rw [hT.e2, if_neg (by omega), wr_ (a + s) (by omega) (by omega), if_neg (by omega), wr_ ((s : Int) * 2) (by omega) (by omega)]) ?_
    exact hk _ (by simpa using hl) hz (hP [] (.last (by simp) .nil))
  | succ c ih =>
    intro pre R a b hc ha hb hl hz hB hP
    have hl2 : pre.length + R.length = n := by simpa using hl
    by_cases h1 : b ≤ n
    · obtain ⟨B1, R1, rfl, hB1, sB1, hR1⟩ := hB.split (by omega)
      obtain ⟨B2, R2, rfl, hB2, sB2, hR2⟩ : ∃ B R, R1 = B ++ R ∧ B.length = s ∧ Srt le B ∧ Blk le s R := by
        simp at hl2
        by_cases h2 : s < R1.length
        · exact hR1.split h2
        · exact ⟨R1, [], by simp, by omega, hR1.srt (by omega), .last (by simp) .nil⟩
      simp at hl2 hc
      refine Ev.step (f := fun k => (f k (pre ++ (B1 ++ (B2 ++ R2))) a (a + s) b).bind fun t => t2 k t n s b (b + 2 * s)) (fun k => by
        rw [hT.e2, if_pos h1, wr_ (a + s) (by omega) (by omega), wr_ (2 * (s : Int)) (by omega) (by omega), wr_ (b + 2 * s) (by omega) (by omega)]) ?_
      have h3 := sy_f ht hcmp hS hR hF (B1.length + B2.length) B1 B2 pre R2 a (a + s) b (Nat.le_refl _) (by omega) (by omega) ha (by omega) (by omega) (by simp; omega) sB1 sB2
      refine Ev.bind (a := pre ++ isort le (B1 ++ B2) ++ R2) (by simpa using h3) ?_
      have hil : (isort le (B1 ++ B2)).length = 2 * s := by rw [isort_len]; simp; omega
      refine ih (pre ++ isort le (B1 ++ B2)) R2 b (b + 2 * s) (by omega) (by simp; omega) rfl (by simp; omega) (SEq.trans ?_ hz) hR2 (fun R' h4 => ?_)
      · have := SEq.append (SEq.append (SEq.refl pre) (isort_seq ht (B1 ++ B2))) (SEq.refl R2)
        simpa using this
      · have := hP (isort le (B1 ++ B2) ++ R') (.more hil (isort_srt ht _) h4)
        simpa using this
    · by_cases h2 : a + s < n
      · obtain ⟨B1, R1, rfl, hB1, sB1, hR1⟩ := hB.split (by omega)
        simp at hl2
        have sR1 := hR1.srt (by omega)
        refine Ev.step (f := fun k => (f k (pre ++ (B1 ++ R1)) a (a + s) n).bind fun t => t1 k t n ((s : Int) * 2)) (fun k => by
          rw [hT.e2, if_neg h1, wr_ (a + s) (by omega) (by omega), if_pos h2, wr_ ((s : Int) * 2) (by omega) (by omega)]) ?_
        have h3 := sy_f ht hcmp hS hR hF (B1.length + R1.length) B1 R1 pre [] a (a + s) n (Nat.le_refl _) (by omega) (by omega) ha (by omega) (by omega) (by simp; omega) sB1 sR1
        refine Ev.bind (a := pre ++ isort le (B1 ++ R1)) (by simpa using h3) ?_
        refine hk _ (by simp [isort_len]; omega) (SEq.trans ?_ hz) (hP _ (.last (by rw [isort_len]; simp; omega) (isort_srt ht _)))
        exact SEq.append (SEq.refl pre) (isort_seq ht (B1 ++ R1))
      · refine Ev.step (f := fun k => t1 k (pre ++ R) n ((s : Int) * 2)) (fun k => by
          rw [hT.e2, if_neg h1, wr_ (a + s) (by omega) (by omega), if_neg h2, wr_ ((s : Int) * 2) (by omega) (by omega)]) ?_
        exact hk _ hl hz (hP R (.last (by omega) (hB.srt (by omega))))
theorem stl_l1 (ht : TP le) (hcmp : Cmp le cmp) (hS : SwF d s0) (hR : RoF s0 r0) (hF : SyF d cmp r0 l0 l1 l2 l3 j4 l4 j6 j7 j8 f) (hT : StF i0 f t0 t1 t2) {n : Nat} (hn : n < 1099511627776) {zs : List α} : ∀ (c s : Nat) (ys : List α), 0 < s → s < 1099511627776 * 2 → n - s ≤ c → ys.length = n → SEq le ys zs → Blk le s ys →
    Ev (fun k => t1 k ys n (s : Int)) (isort le zs) := by
  intro c
  induction c with
  | zero =>
    intro s ys h0 h1 h2 h3 h4 h5
    refine Ev.step (f := fun _ => some (isort le zs)) (fun k => ?_) (Ev.now _)
    rw [hT.e1, if_neg (by omega), isort_eq ht (h5.srt (by omega)) h4]
  | succ c ih =>
    intro s ys h0 h1 h2 h3 h4 h5
    by_cases h6 : s < n
    · refine Ev.step (f := fun k => t2 k ys n s 0 (2 * s)) (fun k => by rw [hT.e1, if_pos (by omega), wr_ (2 * (s : Int)) (by omega) (by omega)]) ?_
      have := stl_l2 ht hcmp hS hR hF hT (n := n) (s := s) h0 hn (by omega) (r := isort le zs) (zs := zs) (fun ys' g1 g2 g3 => ?_) ys.length [] ys 0 (2 * s) (Nat.le_refl _) (by simp) (by omega) (by simpa using h3) (by simpa using h4) h5 (fun R' h => by simpa using h)
      · simpa using this
      · have := ih (2 * s) ys' (by omega) (by omega) (by omega) g1 g2 g3
        rw [show ((s : Int) * 2) = ((2 * s : Nat) : Int) by omega]
        exact this
    · refine Ev.step (f := fun _ => some (isort le zs)) (fun k => ?_) (Ev.now _)
      rw [hT.e1, if_neg (by omega), isort_eq ht (h5.srt (by omega)) h4]
theorem stl_l0 (ht : TP le) (hcmp : Cmp le cmp) (hI : InsF d cmp i0 i1) (hT : StF i0 f t0 t1 t2) {n s : Nat} (hs : 0 < s) (hn : n < 1099511627776) (hs2 : s < 1099511627776) {r : List α} {zs : List α}
    (hk : ∀ ys : List α, ys.length = n → SEq le ys zs → Blk le s ys → Ev (fun k => t1 k ys n s) r) : ∀ (c : Nat) (pre R : List α) (a b : Int), R.length ≤ c → a = pre.length → b = a + s → (pre ++ R).length = n → SEq le (pre ++ R) zs →
      (∀ R', Blk le s R' → Blk le s (pre ++ R')) → Ev (fun k => t0 k (pre ++ R) n s a b) r := by
  intro c
  induction c with
  | zero =>
    intro pre R a b hc ha hb hl hz hP
    have hR0 : R = [] := eq_of_len0 (by omega)
    subst hR0
    simp at hl
    refine Ev.step (f := fun k => (i0 k (pre ++ []) a n (wrap64 (a + 1))).bind fun t => t1 k t n s) (fun k => by rw [hT.e0, if_neg (by omega)]) ?_
    have h3 := ins_f ht hcmp hI (pre := pre) (S := []) (post := []) (a := a) (b := n) ha (by simp; omega) (by simp; omega)
    refine Ev.bind (a := pre ++ []) (by simpa [isort] using h3) (hk _ (by simpa using hl) hz (hP [] (.last (by simp) .nil)))
  | succ c ih =>
    intro pre R a b hc ha hb hl hz hP
    have hl2 : pre.length + R.length = n := by simpa using hl
    by_cases h1 : b ≤ n
    · obtain ⟨B, R2, rfl, hB⟩ : ∃ B R2, R = B ++ R2 ∧ B.length = s := ⟨R.take s, R.drop s, (List.take_append_drop _ _).symm, by rw [List.length_take]; omega⟩
      simp at hl2 hc
      refine Ev.step (f := fun k => (i0 k (pre ++ (B ++ R2)) a b (wrap64 (a + 1))).bind fun t => t0 k t n s b (b + s)) (fun k => by rw [hT.e0, if_pos h1, wr_ (b + s) (by omega) (by omega)]) ?_
      have h3 := ins_f ht hcmp hI (pre := pre) (S := B) (post := R2) (a := a) (b := b) ha (by omega) (by simp; omega)
      refine Ev.bind (a := pre ++ isort le B ++ R2) (by simpa using h3) ?_
      have hil : (isort le B).length = s := by rw [isort_len]; omega
      refine ih (pre ++ isort le B) R2 b (b + s) (by omega) (by simp; omega) rfl (by simp; omega) (SEq.trans ?_ hz) (fun R' h4 => ?_)
      · have := SEq.append (SEq.append (SEq.refl pre) (isort_seq ht B)) (SEq.refl R2)
        simpa using this
      · have := hP (isort le B ++ R') (.more hil (isort_srt ht _) h4)
        simpa using this
    · refine Ev.step (f := fun k => (i0 k (pre ++ R) a n (wrap64 (a + 1))).bind fun t => t1 k t n s) (fun k => by rw [hT.e0, if_neg h1]) ?_
      have h3 := ins_f ht hcmp hI (pre := pre) (S := R) (post := []) (a := a) (b := n) ha (by omega) (by simp; omega)
      refine Ev.bind (a := pre ++ isort le R) (by simpa using h3) ?_
      refine hk _ (by simp [isort_len]; omega) (SEq.trans ?_ hz) (hP _ (.last (by rw [isort_len]; omega) (isort_srt ht _)))
      exact SEq.append (SEq.refl pre) (isort_seq ht R)
theorem stl_f (ht : TP le) (hcmp : Cmp le cmp) (hI : InsF d cmp i0 i1) (hS : SwF d s0) (hR : RoF s0 r0) (hF : SyF d cmp r0 l0 l1 l2 l3 j4 l4 j6 j7 j8 f) (hT : StF i0 f t0 t1 t2) (xs : List α) (hl : xs.length < 1099511627776) : Ev (fun k => t0 k xs (xs.length : Int) 20 0 20) (isort le xs) := by
  have := stl_l0 ht hcmp hI hT (n := xs.length) (s := 20) (by omega) hl (by omega) (r := isort le xs) (zs := xs) (fun ys g1 g2 g3 => stl_l1 ht hcmp hS hR hF hT hl xs.length 20 ys (by omega) (by omega) (by omega) g1 g2 g3) xs.length [] xs 0 20 (Nat.le_refl _) (by simp) (by omega) (by simp) (SEq.refl _) (fun R' h => by simpa using h)
  simpa using this
end SortE

theorem sortI_Job__job_Due_1 : InsF z32 ((fun x y : S32 => job_Due_1.f x.f0 x.f1 x.f2 x.f3 x.f4 x.f5 x.f6 x.f7 x.f8 x.f9 x.f10 x.f11 y.f0 y.f1 y.f2 y.f3 y.f4 y.f5 y.f6 y.f7 y.f8 y.f9 y.f10 y.f11)) slices_insertionSortCmpFunc_Job__job_Due_1.l0 slices_insertionSortCmpFunc_Job__job_Due_1.l1 := ⟨by intros; simp only [slices_insertionSortCmpFunc_Job__job_Due_1.l0], by intros; simp only [slices_insertionSortCmpFunc_Job__job_Due_1.l1]; rfl⟩
theorem sortW_Job__job_Due_1 : SwF z32 slices_swapRangeCmpFunc_Job__job_Due_1.l0 := ⟨by intros; simp only [slices_swapRangeCmpFunc_Job__job_Due_1.l0]; rfl⟩
theorem sortR_Job__job_Due_1 : RoF slices_swapRangeCmpFunc_Job__job_Due_1.l0 slices_rotateCmpFunc_Job__job_Due_1.l0 := ⟨by intros; simp only [slices_rotateCmpFunc_Job__job_Due_1.l0, slices_swapRangeCmpFunc_Job__job_Due_1.f]⟩
theorem sortY_Job__job_Due_1 : SyF z32 ((fun x y : S32 => job_Due_1.f x.f0 x.f1 x.f2 x.f3 x.f4 x.f5 x.f6 x.f7 x.f8 x.f9 x.f10 x.f11 y.f0 y.f1 y.f2 y.f3 y.f4 y.f5 y.f6 y.f7 y.f8 y.f9 y.f10 y.f11)) slices_rotateCmpFunc_Job__job_Due_1.l0 slices_symMergeCmpFunc_Job__job_Due_1.l0 slices_symMergeCmpFunc_Job__job_Due_1.l1 slices_symMergeCmpFunc_Job__job_Due_1.l2 slices_symMergeCmpFunc_Job__job_Due_1.l3 slices_symMergeCmpFunc_Job__job_Due_1.j4 slices_symMergeCmpFunc_Job__job_Due_1.l4 slices_symMergeCmpFunc_Job__job_Due_1.j6 slices_symMergeCmpFunc_Job__job_Due_1.j7 slices_symMergeCmpFunc_Job__job_Due_1.j8 slices_symMergeCmpFunc_Job__job_Due_1.f where
  ef := by intros; simp only [slices_symMergeCmpFunc_Job__job_Due_1.f]
  e0 := by intros; simp only [slices_symMergeCmpFunc_Job__job_Due_1.l0]; rfl
  e1 := by intros; simp only [slices_symMergeCmpFunc_Job__job_Due_1.l1]; rfl
  e2 := by intros; simp only [slices_symMergeCmpFunc_Job__job_Due_1.l2]; rfl
  e3 := by intros; simp only [slices_symMergeCmpFunc_Job__job_Due_1.l3]; rfl
  ej4 := by intros; simp only [slices_symMergeCmpFunc_Job__job_Due_1.j4]
  e4 := by intros; simp only [slices_symMergeCmpFunc_Job__job_Due_1.l4]; rfl
  ej6 := by intros; simp only [slices_symMergeCmpFunc_Job__job_Due_1.j6, slices_rotateCmpFunc_Job__job_Due_1.f]
  ej7 := by intros; simp only [slices_symMergeCmpFunc_Job__job_Due_1.j7]
  ej8 := by intros; simp only [slices_symMergeCmpFunc_Job__job_Due_1.j8]
theorem sortB_Job__job_Due_1 : StF slices_insertionSortCmpFunc_Job__job_Due_1.l0 slices_symMergeCmpFunc_Job__job_Due_1.f slices_stableCmpFunc_Job__job_Due_1.l0 slices_stableCmpFunc_Job__job_Due_1.l1 slices_stableCmpFunc_Job__job_Due_1.l2 := ⟨by intros; simp only [slices_stableCmpFunc_Job__job_Due_1.l0, slices_insertionSortCmpFunc_Job__job_Due_1.f], by intros; simp only [slices_stableCmpFunc_Job__job_Due_1.l1], by intros; simp only [slices_stableCmpFunc_Job__job_Due_1.l2]⟩
theorem SORT_Job__job_Due_1 {le : S32 → S32 → Bool} (ht : TP le) (hc : Cmp le ((fun x y : S32 => job_Due_1.f x.f0 x.f1 x.f2 x.f3 x.f4 x.f5 x.f6 x.f7 x.f8 x.f9 x.f10 x.f11 y.f0 y.f1 y.f2 y.f3 y.f4 y.f5 y.f6 y.f7 y.f8 y.f9 y.f10 y.f11))) (xs : List S32) (hl : xs.length < 1099511627776) : Ev (fun k => slices_SortStableFunc_Job__job_Due_1.f k xs) (isort le xs) := by
  have h := stl_f ht hc sortI_Job__job_Due_1 sortW_Job__job_Due_1 sortR_Job__job_Due_1 sortY_Job__job_Due_1 sortB_Job__job_Due_1 xs hl
  have e : ∀ k, slices_SortStableFunc_Job__job_Due_1.f k xs = (slices_stableCmpFunc_Job__job_Due_1.l0 k xs (xs.length : Int) 20 0 20) := fun k => by
    unfold slices_SortStableFunc_Job__job_Due_1.f slices_stableCmpFunc_Job__job_Due_1.f
    cases slices_stableCmpFunc_Job__job_Due_1.l0 k xs (xs.length : Int) 20 0 20 <;> rfl
  exact Ev.congr e h

def endOf (x : S32) : Int := wrap64 (x.f8 + x.f3)
def leD (x y : S32) : Bool := decide (endOf x < endOf y) || (decide (endOf x = endOf y) && decide (x.f0 ≤ y.f0))
theorem tpD : TP leD := by
  constructor
  · intro a b; unfold leD; simp only [Bool.or_eq_true, Bool.and_eq_true, decide_eq_true_eq]; omega
  · intro a b c; unfold leD; simp only [Bool.or_eq_true, Bool.and_eq_true, decide_eq_true_eq]; omega
theorem cmpc (x y : Int) : cmp_Compare_int.f x y = some (if x < y then -1 else if x > y then 1 else 0) := by
  unfold cmp_Compare_int.f cmp_isNaN_int.f
  simp only [Option.bind_some]
  first | (split <;> (try split) <;> simp_all; done) | (simp; split <;> (try split) <;> rfl)
theorem orc (x y : Int) : cmp_Or_int.f 10 [x, y] = some (if x = 0 then y else x) := by
  have e1 : wrap64 (0 + 1) = 1 := by decide +kernel
  have e2 : wrap64 (1 + 1) = 2 := by decide +kernel
  unfold cmp_Or_int.f
  rw [cmp_Or_int.l0.eq_2, if_pos (by simp), if_pos (by omega), if_pos (by simp)]
  rw [show rd [x, y] 0 = x from rfl]
  by_cases hx : x = 0
  · rw [if_pos hx, if_pos hx, e1, cmp_Or_int.l0.eq_2, if_pos (by simp), if_pos (by omega), if_pos (by simp)]
    rw [show rd [x, y] 1 = y from rfl]
    by_cases hy : y = 0
    · rw [if_pos hy, e2, cmp_Or_int.l0.eq_2, if_neg (by simp), hy]
    · rw [if_neg hy]
  · rw [if_neg hx, if_neg hx]
theorem cmpD : Cmp leD (fun x y : S32 => job_Due_1.f x.f0 x.f1 x.f2 x.f3 x.f4 x.f5 x.f6 x.f7 x.f8 x.f9 x.f10 x.f11 y.f0 y.f1 y.f2 y.f3 y.f4 y.f5 y.f6 y.f7 y.f8 y.f9 y.f10 y.f11) := by
  intro a b
  refine ⟨_, by unfold job_Due_1.f job_DueL.f; dsimp only; rw [cmpc, cmpc, Option.bind_some, Option.bind_some, orc]; rfl, ?_⟩
  unfold leD endOf
  rw [Bool.eq_false_iff]
  simp only [ne_eq, Bool.or_eq_true, Bool.and_eq_true, decide_eq_true_eq]
  repeat' split
  all_goals omega
theorem sort_ev (xs : List S32) (hl : xs.length < 1099511627776) : Ev (fun k => slices_SortStableFunc_Job__job_Due_1.f k xs) (isort leD xs) := SORT_Job__job_Due_1 tpD cmpD xs hl
end Go.Proofs.Ytkhfgflcanmefaa.Pure
end
section
namespace Go.Proofs.Ytkhfgflcanmefaa.PAll
open Go.RowKit Go.Proofs.YtkhfgflcanmefaaW.PrintWords Go.Proofs.YtkhfgflcanmefaaW.PrintLast Go.Proofs.YtkhfgflcanmefaaW.PrintMore
attribute [local go_sem] max2_int min2_int max_two min_two max_three min_three max_four min_four   -- for this text's walks alone
set_option linter.unusedVariables false
set_option linter.unusedSimpArgs false

def prebendref16_Held.f (a0 : Int) (a1 : Int) : Option (Int) := if a0 < 0 then (some 0) else (if a0 > a1 then (some a1) else (some a0))
set_option maxHeartbeats 8000000 in
set_option maxRecDepth 100000 in
theorem prebendref16_Held.calls (a0 : Int) (a1 : Int) (r : Int) (w : World) (h : prebendref16_Held.f a0 a1 = some r) :
    Calls Try.prog 38 #[.int .i64 a0, .int .i64 a1] w fun e w' => e = .returned (.int .i64 r) ∧ Drawn0 w w' := by
  have H : (if a0 < 0 then (some 0) else (if a0 > a1 then (some a1) else (some a0))) = some r := h
  clear h
  by_cases c3 : a0 < 0
  · rw [if_pos c3] at H
    have c3b0 : decide (a0 < 0) = true := decide_eq_true c3
    clear c3
    obtain rfl := Option.some.inj H
    go_enter Try.func38, Try.ntmps38
    go_wp2
    go_ret
    exact ⟨by first | rfl | (simp; done) | (simp [*]; done), by repeat (first | exact Drawn0.refl _ | apply Drawn0.step)⟩
  · rw [if_neg c3] at H
    have c3b0 : decide (a0 < 0) = false := decide_eq_false c3
    clear c3
    by_cases c4 : a0 > a1
    · rw [if_pos c4] at H
      have c4b0 : decide (a1 < a0) = true := decide_eq_true c4
      clear c4
      obtain rfl := Option.some.inj H
      go_enter Try.func38, Try.ntmps38
      go_wp2
      go_ret
      exact ⟨by first | rfl | (simp; done) | (simp [*]; done), by repeat (first | exact Drawn0.refl _ | apply Drawn0.step)⟩
    · rw [if_neg c4] at H
      have c4b0 : decide (a1 < a0) = false := decide_eq_false c4
      clear c4
      obtain rfl := Option.some.inj H
      go_enter Try.func38, Try.ntmps38
      go_wp2
      go_ret
      exact ⟨by first | rfl | (simp; done) | (simp [*]; done), by repeat (first | exact Drawn0.refl _ | apply Drawn0.step)⟩

end Go.Proofs.Ytkhfgflcanmefaa.PAll
end
section
namespace Go.Proofs.Ytkhfgflcanmefaa.PAll
open Go.RowKit Go.Proofs.YtkhfgflcanmefaaW.PrintWords Go.Proofs.YtkhfgflcanmefaaW.PrintLast Go.Proofs.YtkhfgflcanmefaaW.PrintMore
attribute [local go_sem] max2_int min2_int max_two min_two max_three min_three max_four min_four   -- for this text's walks alone
set_option linter.unusedVariables false
set_option linter.unusedSimpArgs false

mutual
def prebendref19_Held.l0 : Nat → List (S32) → List (S32) → Int → Option ((List (S32)))
 | 0, _, _, _ => none
 | k + 1, x0, x3, x4 => if x4 < (x0.length : Int) then (prebendref19_Held.j1 k x0 x3 x4 (decide (x4 < 24))) else (prebendref19_Held.j1 k x0 x3 x4 false)
def prebendref19_Held.j1 : Nat → List (S32) → List (S32) → Int → Bool → Option ((List (S32)))
 | 0, _, _, _, _ => none
 | k + 1, x0, x3, x4, x14 => if x14 = true then (if 0 ≤ x4 then (if x4 < (x0.length : Int) then ((prebendref16_Held.f ((rd_T32 x0 x4).f8) 1125899906842624).bind fun t195 => ((prebendref16_Held.f ((rd_T32 x0 x4).f3) 1125899906842624).bind fun t196 => (if x3.length < 1256584717458 then (prebendref19_Held.l0 k x0 (x3 ++ [(⟨(rd_T32 x0 x4).f0, (rd_T32 x0 x4).f1, (rd_T32 x0 x4).f2, t196, (rd_T32 x0 x4).f4, (rd_T32 x0 x4).f5, (rd_T32 x0 x4).f6, (rd_T32 x0 x4).f7, t195, (rd_T32 x0 x4).f9, (rd_T32 x0 x4).f10, (rd_T32 x0 x4).f11⟩ : S32)]) (wrap64 (x4 + 1))) else (none)))) else (none)) else (none)) else (some x3)
end
def prebendref19_Held.f (k : Nat) (l0 : List (S32)) : Option ((List (S32))) := prebendref19_Held.l0 k l0 (([] : List (S32))) 0
theorem prebendref19_Held.mono_l : ∀ k, (∀ y0 y1 y2, LeO (prebendref19_Held.l0 k y0 y1 y2) (prebendref19_Held.l0 (k + 1) y0 y1 y2)) ∧ (∀ y0 y1 y2 y3, LeO (prebendref19_Held.j1 k y0 y1 y2 y3) (prebendref19_Held.j1 (k + 1) y0 y1 y2 y3))
 | 0 => ⟨fun _ _ _ r h => by simp [prebendref19_Held.l0] at h, fun _ _ _ _ r h => by simp [prebendref19_Held.j1] at h⟩
 | k + 1 => by
  obtain ⟨ih0, ih1⟩ := prebendref19_Held.mono_l k
  refine ⟨?_, ?_⟩
  ·intro y0 y1 y2
   unfold prebendref19_Held.l0
   repeat' first
   | (with_reducible exact ih0 _ _ _)
   | (with_reducible exact ih1 _ _ _ _)
   | (with_reducible exact LeO.refl _)
   | (with_reducible exact LeO.none _)
   | (with_reducible refine LeO.ite ?_ ?_)
   | (with_reducible refine LeO.bind ?_ (fun _ => ?_))
   | exact ih0 _ _ _
   | exact ih1 _ _ _ _
   | exact LeO.none _
   | refine LeO.ite ?_ ?_
   | refine LeO.bind ?_ (fun _ => ?_)
  ·intro y0 y1 y2 y3
   unfold prebendref19_Held.j1
   repeat' first
   | (with_reducible exact ih0 _ _ _)
   | (with_reducible exact ih1 _ _ _ _)
   | (with_reducible exact LeO.refl _)
   | (with_reducible exact LeO.none _)
   | (with_reducible refine LeO.ite ?_ ?_)
   | (with_reducible refine LeO.bind ?_ (fun _ => ?_))
   | exact ih0 _ _ _
   | exact ih1 _ _ _ _
   | exact LeO.none _
   | refine LeO.ite ?_ ?_
   | refine LeO.bind ?_ (fun _ => ?_)
theorem prebendref19_Held.mono : ∀ a0 k, LeO (prebendref19_Held.f k a0) (prebendref19_Held.f (k + 1) a0) := by
 intro a0 k
 obtain ⟨ih0, ih1⟩ := prebendref19_Held.mono_l k
 unfold prebendref19_Held.f
 repeat' first
   | (with_reducible exact ih0 _ _ _)
   | (with_reducible exact ih1 _ _ _ _)
   | (with_reducible exact LeO.refl _)
   | (with_reducible exact LeO.none _)
   | (with_reducible refine LeO.ite ?_ ?_)
   | (with_reducible refine LeO.bind ?_ (fun _ => ?_))
   | exact ih0 _ _ _
   | exact ih1 _ _ _ _
   | exact LeO.none _
   | refine LeO.ite ?_ ?_
   | refine LeO.bind ?_ (fun _ => ?_)
def prebendref19_Held.T6 : Bool × List (List Nat × List Nat) := (true, [([], []), ([0], [0]), ([1], [1]), ([], []), ([3], [3]), ([4, 2], [4]), ([0, 1, 2, 3, 4], []), ([6, 2, 5, 0, 1, 2, 3, 4], [2, 6]), ([0, 1, 2, 3, 4, 5, 6, 7], []), ([8, 5, 7, 0, 1, 2, 3, 4, 5, 6, 7], [5, 8])])
def prebendref19_Held.B6 : List Nat := [0, 1, 3, 0, 8, 31, 31, 127, 255, 511]
theorem prebendref19_Held.tab6 : rtab .any (opsOf Try.f15 6) = prebendref19_Held.T6 := by kernel_rfl
theorem prebendref19_Held.bits6 : waitsOk prebendref19_Held.T6.2 prebendref19_Held.B6 = true := by kernel_rfl
set_option maxHeartbeats 8000000 in
set_option maxRecDepth 100000 in
theorem prebendref19_Held.calls (k : Nat) (A0 : Option Addr) (c0 : Nat) (l0 : List (S32)) (r : List (S32)) (w : World) (hr0 : Kd.C k32 w A0 l0.length l0) (hc0 : l0.length ≤ c0) (h : prebendref19_Held.f k l0 = some r) :
  Calls Try.prog 15 #[.slice A0 l0.length c0] w fun e w' => ∃ v0_ : Value, e = .returned (v0_) ∧ Kd.R k32 32 w' w.heap.size (fun _ => True) v0_ r ∧ Below w.heap.size w w' := by
 have hu32 := Try.underlying32
 have HR0 := Aside0.mk hr0
 have HC0 := Aside0.mk hc0
 clear hr0; clear hc0
 have HB := Aside0.mk (Below.refl w.heap.size w)
 have H : (prebendref19_Held.l0 k l0 (([] : List (S32))) 0) = some r := h
 clear h
 obtain ⟨y190, hy190⟩ : ∃ y_ : List (S32), y_ = (([] : List (S32))) := ⟨_, rfl⟩
 replace H : (prebendref19_Held.l0 k l0 y190 0) = some r := mH hy190 H
 have Ny190 := Aside0.mk hy190
 clear hy190
 have H' := Aside0.mk H
 clear H
 go_enter Try.func15, Try.ntmps15
 go_wp2_with (first | ((with_reducible refine gate_dst (N := 6) rfl ?_); refine Kd.R_lit k32 _ 32 ?hg (N := 6) ?hd (xs := ([] : List (S32))) (inner := []) (ok := fun _ => True) (okp := fun _ => True) ?hr ?hp (fun _ hk => hk) trivial (Below.refl _ _) (Nat.le_refl _) (by simp) ?_; (case hd => rfl); (case hg => rfl); (case hr => first | (go_simp; done) | (go_simp; rfl)); (case hp => exact (Reps.none _ _)); intro v191 w2 ho3 hb hg_ hnew_; clear hg_ hnew_; (first | rw [← Ny190.out] at ho3 | (simp only [Int.reduceToNat] at ho3; rw [← Ny190.out] at ho3)); have n0_ := Aside0.mk (Kd.R_lower ho3 (below_size (mB HB.out))); have n1_ := Aside0.mk (below_step (mB HB.out) hb); clear HB; have HO192 := n0_; have HB := n1_; clear n0_ n1_; clear hb ho3))
 go_loopg [3, 4] k (fun kq v3 v4 w' => ∃ (x3_1 : List (S32)) (x4_1 : Int), v4 = .int .i64 x4_1 ∧ Aside0 (prebendref19_Held.l0 kq l0 x3_1 x4_1 = some r) ∧ Aside0 (kq ≤ k) ∧ Aside0 (Kd.R k32 32 w' w.heap.size (fun _ => True) v3 x3_1) ∧ Aside0 (Below w.heap.size w w'))
 case atStart => exact ⟨(y190), (0), ez, H', ⟨Nat.le_refl _⟩, ⟨mR HO192.out⟩, ⟨mB HB.out⟩⟩
 case round =>
  clear H'
  (try clear c1); (try clear p2)
  obtain ⟨x3_1, x4_1, rfl, HA, HK1, HO_3, HB⟩ := hrel
  cases gk with
  | zero => exact absurd HA.out (by simp [prebendref19_Held.l0])
  | succ k1 =>
   have H := HA.out
   clear HA
   simp only [prebendref19_Held.l0] at H
   have HC4 := Aside0.mk H
   clear H
   go_upto_region 3 with (fail)
   go_cut [14] (fun v14 wc => ∃ (kq : Nat) (x14_3 : Bool), v14 = .bool x14_3 ∧ Aside0 (prebendref19_Held.j1 kq l0 x3_1 x4_1 x14_3 = some r) ∧ Aside0 (kq ≤ k1) ∧ Aside0 (Kd.R k32 32 wc w.heap.size (fun _ => True) u3 x3_1) ∧ Aside0 (Below w.heap.size w wc))
   case first =>
    have H := HC4.out
    clear HC4
    by_cases c5 : x4_1 < (l0.length : Int)
    ·rw [if_pos c5] at H
     have c5b0 : decide (x4_1 < (l0.length : Int)) = true := decide_eq_true c5
     clear c5
     (first | rw [c5b0] | (simp only [i64_w, i32_w]; rw [c5b0]) | skip)
     have H' := Aside0.mk H
     clear H
     go_wp2
     go_meet
     case rel => exact ⟨_, (decide (x4_1 < 24)), ez, H', ⟨by have := HK1.out; first | omega | exact Nat.le_refl _⟩, ⟨mR HO_3.out⟩, ⟨mB HB.out⟩⟩
    ·rw [if_neg c5] at H
     have c5b0 : decide (x4_1 < (l0.length : Int)) = false := decide_eq_false c5
     clear c5
     (first | rw [c5b0] | (simp only [i64_w, i32_w]; rw [c5b0]) | skip)
     have H' := Aside0.mk H
     clear H
     go_wp2
     go_meet
     case rel => exact ⟨_, (false), ez, H', ⟨by have := HK1.out; first | omega | exact Nat.le_refl _⟩, ⟨mR HO_3.out⟩, ⟨mB HB.out⟩⟩
   case rest =>
    clear HC4
    (try clear c1); (try clear p2); (try clear c5); (try clear c5b0); (try clear p2)
    obtain ⟨kq, x14_3, rfl, HA, HJ3, HO_3, HB⟩ := hcut
    cases kq with
    | zero => exact absurd HA.out (by simp [prebendref19_Held.j1])
    | succ kj3 =>
     have H := HA.out
     clear HA
     simp only [prebendref19_Held.j1] at H
     by_cases c6 : x14_3 = true
     ·subst c6
      have H1 : (if 0 ≤ x4_1 then (if x4_1 < (l0.length : Int) then ((prebendref16_Held.f ((rd_T32 l0 x4_1).f8) 1125899906842624).bind fun t195 => ((prebendref16_Held.f ((rd_T32 l0 x4_1).f3) 1125899906842624).bind fun t196 => (if x3_1.length < 1256584717458 then (prebendref19_Held.l0 kj3 l0 (x3_1 ++ [(⟨(rd_T32 l0 x4_1).f0, (rd_T32 l0 x4_1).f1, (rd_T32 l0 x4_1).f2, t196, (rd_T32 l0 x4_1).f4, (rd_T32 l0 x4_1).f5, (rd_T32 l0 x4_1).f6, (rd_T32 l0 x4_1).f7, t195, (rd_T32 l0 x4_1).f9, (rd_T32 l0 x4_1).f10, (rd_T32 l0 x4_1).f11⟩ : S32)]) (wrap64 (x4_1 + 1))) else (none)))) else (none)) else (none)) = some r := by rw [if_pos rfl] at H; exact H
      clear H
      have H := H1
      clear H1
      by_cases c7 : 0 ≤ x4_1
      ·rw [if_pos c7] at H
       have c7b0 : decide (0 ≤ x4_1) = true := decide_eq_true c7
       clear c7
       by_cases c8 : x4_1 < (l0.length : Int)
       ·rw [if_pos c8] at H
        have c8b0 : decide (x4_1 < (l0.length : Int)) = true := decide_eq_true c8
        clear c8
        replace H := Option.bind_eq_some_iff.mp H
        obtain ⟨t195, A90, H⟩ := H
        replace H : ((prebendref16_Held.f ((rd_T32 l0 x4_1).f3) 1125899906842624).bind fun t196 => (if x3_1.length < 1256584717458 then (prebendref19_Held.l0 kj3 l0 (x3_1 ++ [(⟨(rd_T32 l0 x4_1).f0, (rd_T32 l0 x4_1).f1, (rd_T32 l0 x4_1).f2, t196, (rd_T32 l0 x4_1).f4, (rd_T32 l0 x4_1).f5, (rd_T32 l0 x4_1).f6, (rd_T32 l0 x4_1).f7, t195, (rd_T32 l0 x4_1).f9, (rd_T32 l0 x4_1).f10, (rd_T32 l0 x4_1).f11⟩ : S32)]) (wrap64 (x4_1 + 1))) else (none))) = some r := H
        have A9 := Aside0.mk A90
        clear A90
        replace H := Option.bind_eq_some_iff.mp H
        obtain ⟨t196, A100, H⟩ := H
        replace H : (if x3_1.length < 1256584717458 then (prebendref19_Held.l0 kj3 l0 (x3_1 ++ [(⟨(rd_T32 l0 x4_1).f0, (rd_T32 l0 x4_1).f1, (rd_T32 l0 x4_1).f2, t196, (rd_T32 l0 x4_1).f4, (rd_T32 l0 x4_1).f5, (rd_T32 l0 x4_1).f6, (rd_T32 l0 x4_1).f7, t195, (rd_T32 l0 x4_1).f9, (rd_T32 l0 x4_1).f10, (rd_T32 l0 x4_1).f11⟩ : S32)]) (wrap64 (x4_1 + 1))) else (none)) = some r := H
        have A10 := Aside0.mk A100
        clear A100
        by_cases c11 : x3_1.length < 1256584717458
        ·rw [if_pos c11] at H
         have LMc11 := Aside0.mk c11
         clear c11
         obtain ⟨y197, hy197⟩ : ∃ y_ : List (S32), y_ = (x3_1 ++ [(⟨(rd_T32 l0 x4_1).f0, (rd_T32 l0 x4_1).f1, (rd_T32 l0 x4_1).f2, t196, (rd_T32 l0 x4_1).f4, (rd_T32 l0 x4_1).f5, (rd_T32 l0 x4_1).f6, (rd_T32 l0 x4_1).f7, t195, (rd_T32 l0 x4_1).f9, (rd_T32 l0 x4_1).f10, (rd_T32 l0 x4_1).f11⟩ : S32)]) := ⟨_, rfl⟩
         replace H : (prebendref19_Held.l0 kj3 l0 y197 (wrap64 (x4_1 + 1))) = some r := mH hy197 H
         have Ny197 := Aside0.mk hy197
         clear hy197
         have H' := Aside0.mk H
         clear H
         have p193 : 0 ≤ (x4_1 : Int) := oda
         have q193 : x4_1 < (l0.length : Int) := oda
         obtain ⟨ad193, e193, hx193_0, hx193_1, hx193_2, hx193_3, hx193_4, hx193_5, hx193_6, hx193_7, hx193_8, hx193_9, hx193_10, hx193_11⟩ := at_T32 HR0.out x4_1 p193 q193
         cases e193
         replace hx193_0 := (HB.out.cell (World.block_lt_of_cell? w _ hx193_0)).trans hx193_0
         replace hx193_1 := (HB.out.cell (World.block_lt_of_cell? w _ hx193_1)).trans hx193_1
         replace hx193_2 := (HB.out.cell (World.block_lt_of_cell? w _ hx193_2)).trans hx193_2
         replace hx193_3 := (HB.out.cell (World.block_lt_of_cell? w _ hx193_3)).trans hx193_3
         replace hx193_4 := (HB.out.cell (World.block_lt_of_cell? w _ hx193_4)).trans hx193_4
         replace hx193_5 := (HB.out.cell (World.block_lt_of_cell? w _ hx193_5)).trans hx193_5
         replace hx193_6 := (HB.out.cell (World.block_lt_of_cell? w _ hx193_6)).trans hx193_6
         replace hx193_7 := (HB.out.cell (World.block_lt_of_cell? w _ hx193_7)).trans hx193_7
         replace hx193_8 := (HB.out.cell (World.block_lt_of_cell? w _ hx193_8)).trans hx193_8
         replace hx193_9 := (HB.out.cell (World.block_lt_of_cell? w _ hx193_9)).trans hx193_9
         replace hx193_10 := (HB.out.cell (World.block_lt_of_cell? w _ hx193_10)).trans hx193_10
         replace hx193_11 := (HB.out.cell (World.block_lt_of_cell? w _ hx193_11)).trans hx193_11
         replace p193 := eq_true p193
         replace q193 := eq_true q193
         try go_wp2_with (first | ((with_reducible refine gate_dst (N := 5) rfl ?_); refine box_event ?hg (N := 5) ?hd (cs := #[.int .i64 0, .int .i64 0, .int .i64 0, .int .i64 0, .int .i64 0, .int .i64 0, .int .i64 0, .int .i64 0, .int .i64 0, .int .i64 0, .int .i64 0, .slice none 0 0]) (t := 32) ?hr ?_; (case hd => rfl); (case hg => rfl); (case hr => first | (go_simp; done) | (go_simp; rfl)); intro gb194 hg w12 hbox hb; have n0_ := Aside0.mk (Kd.R_below (Kd.R_elderB (mR HO_3.out) gb194 (Nat.le_of_eq hg.symm)) hb); have n1_ := Aside0.mk (below_step (mB HB.out) hb); have n2_ := Aside0.mk (hbox); have n3_ := Aside0.mk ((by rw [hg]; exact (below_size (mB HB.out)) : w.heap.size ≤ gb194)); have n4_ := Aside0.mk ((by rw [hg]; exact (below_size (mB HB.out)) : w.heap.size ≤ gb194)); clear HO_3; clear HB; have HO_3 := n0_; have HB := n1_; have BK194 := n2_; have GW194 := n3_; have GE194 := n4_; clear n0_ n1_ n2_ n3_ n4_; clear hb hbox hg; have hcz13_0 : w12.cell? ⟨gb194, 0, none⟩ = some (.int .i64 0) := (blk_cell BK194.out 0).trans rfl; have hcz13_1 : w12.cell? ⟨gb194, 1, none⟩ = some (.int .i64 0) := (blk_cell BK194.out 1).trans rfl; have hcz13_2 : w12.cell? ⟨gb194, 2, none⟩ = some (.int .i64 0) := (blk_cell BK194.out 2).trans rfl; have hcz13_3 : w12.cell? ⟨gb194, 3, none⟩ = some (.int .i64 0) := (blk_cell BK194.out 3).trans rfl; have hcz13_4 : w12.cell? ⟨gb194, 4, none⟩ = some (.int .i64 0) := (blk_cell BK194.out 4).trans rfl; have hcz13_5 : w12.cell? ⟨gb194, 5, none⟩ = some (.int .i64 0) := (blk_cell BK194.out 5).trans rfl; have hcz13_6 : w12.cell? ⟨gb194, 6, none⟩ = some (.int .i64 0) := (blk_cell BK194.out 6).trans rfl; have hcz13_7 : w12.cell? ⟨gb194, 7, none⟩ = some (.int .i64 0) := (blk_cell BK194.out 7).trans rfl; have hcz13_8 : w12.cell? ⟨gb194, 8, none⟩ = some (.int .i64 0) := (blk_cell BK194.out 8).trans rfl; have hcz13_9 : w12.cell? ⟨gb194, 9, none⟩ = some (.int .i64 0) := (blk_cell BK194.out 9).trans rfl; have hcz13_10 : w12.cell? ⟨gb194, 10, none⟩ = some (.int .i64 0) := (blk_cell BK194.out 10).trans rfl; have hcz13_11 : w12.cell? ⟨gb194, 11, none⟩ = some (.slice none 0 0) := (blk_cell BK194.out 11).trans rfl; have hfz13_0 := blk_frozen BK194.out 0; have hfz13_1 := blk_frozen BK194.out 1; have hfz13_2 := blk_frozen BK194.out 2; have hfz13_3 := blk_frozen BK194.out 3; have hfz13_4 := blk_frozen BK194.out 4; have hfz13_5 := blk_frozen BK194.out 5; have hfz13_6 := blk_frozen BK194.out 6; have hfz13_7 := blk_frozen BK194.out 7; have hfz13_8 := blk_frozen BK194.out 8; have hfz13_9 := blk_frozen BK194.out 9; have hfz13_10 := blk_frozen BK194.out 10; have hfz13_11 := blk_frozen BK194.out 11))
         have n0_ : Aside0 (Kd.R k32 32 ((((((((((((w12.setCell ⟨gb194, 0, none⟩ (.int .i64 ((rd_T32 l0 x4_1).f0))).setCell ⟨gb194, 1, none⟩ (.int .i64 ((rd_T32 l0 x4_1).f1))).setCell ⟨gb194, 2, none⟩ (.int .i64 ((rd_T32 l0 x4_1).f2))).setCell ⟨gb194, 3, none⟩ (.int .i64 ((rd_T32 l0 x4_1).f3))).setCell ⟨gb194, 4, none⟩ (.int .i64 ((rd_T32 l0 x4_1).f4))).setCell ⟨gb194, 5, none⟩ (.int .i64 ((rd_T32 l0 x4_1).f5))).setCell ⟨gb194, 6, none⟩ (.int .i64 ((rd_T32 l0 x4_1).f6))).setCell ⟨gb194, 7, none⟩ (.int .i64 ((rd_T32 l0 x4_1).f7))).setCell ⟨gb194, 8, none⟩ (.int .i64 ((rd_T32 l0 x4_1).f8))).setCell ⟨gb194, 9, none⟩ (.int .i64 ((rd_T32 l0 x4_1).f9))).setCell ⟨gb194, 10, none⟩ (.int .i64 ((rd_T32 l0 x4_1).f10))).setCell ⟨gb194, 11, none⟩ (.slice ((rd_T32 l0 x4_1).f11).A ((rd_T32 l0 x4_1).f11).n ((rd_T32 l0 x4_1).f11).c)) w.heap.size (fun k_ => k_ ≠ gb194) u3 x3_1) := ⟨by (with_reducible repeat (first | apply Kd.R_alloc | apply Kd.R_drewN | apply Kd.R_drew)); exact Kd.R_mono (Kd.R_fa gb194 11 (Kd.R_fa gb194 10 (Kd.R_fa gb194 9 (Kd.R_fa gb194 8 (Kd.R_fa gb194 7 (Kd.R_fa gb194 6 (Kd.R_fa gb194 5 (Kd.R_fa gb194 4 (Kd.R_fa gb194 3 (Kd.R_fa gb194 2 (Kd.R_fa gb194 1 (Kd.R_fa gb194 0 (Kd.R_mono HO_3.out (fun k_ hk => (⟨hk, hk.2⟩ : _ ∧ k_ ≠ gb194))) (.int .i64 ((rd_T32 l0 x4_1).f0))) (.int .i64 ((rd_T32 l0 x4_1).f1))) (.int .i64 ((rd_T32 l0 x4_1).f2))) (.int .i64 ((rd_T32 l0 x4_1).f3))) (.int .i64 ((rd_T32 l0 x4_1).f4))) (.int .i64 ((rd_T32 l0 x4_1).f5))) (.int .i64 ((rd_T32 l0 x4_1).f6))) (.int .i64 ((rd_T32 l0 x4_1).f7))) (.int .i64 ((rd_T32 l0 x4_1).f8))) (.int .i64 ((rd_T32 l0 x4_1).f9))) (.int .i64 ((rd_T32 l0 x4_1).f10))) (.slice ((rd_T32 l0 x4_1).f11).A ((rd_T32 l0 x4_1).f11).n ((rd_T32 l0 x4_1).f11).c)) (fun _ hk => hk.1.2)⟩
         have n1_ : Aside0 (((((((((((((w12.setCell ⟨gb194, 0, none⟩ (.int .i64 ((rd_T32 l0 x4_1).f0))).setCell ⟨gb194, 1, none⟩ (.int .i64 ((rd_T32 l0 x4_1).f1))).setCell ⟨gb194, 2, none⟩ (.int .i64 ((rd_T32 l0 x4_1).f2))).setCell ⟨gb194, 3, none⟩ (.int .i64 ((rd_T32 l0 x4_1).f3))).setCell ⟨gb194, 4, none⟩ (.int .i64 ((rd_T32 l0 x4_1).f4))).setCell ⟨gb194, 5, none⟩ (.int .i64 ((rd_T32 l0 x4_1).f5))).setCell ⟨gb194, 6, none⟩ (.int .i64 ((rd_T32 l0 x4_1).f6))).setCell ⟨gb194, 7, none⟩ (.int .i64 ((rd_T32 l0 x4_1).f7))).setCell ⟨gb194, 8, none⟩ (.int .i64 ((rd_T32 l0 x4_1).f8))).setCell ⟨gb194, 9, none⟩ (.int .i64 ((rd_T32 l0 x4_1).f9))).setCell ⟨gb194, 10, none⟩ (.int .i64 ((rd_T32 l0 x4_1).f10))).setCell ⟨gb194, 11, none⟩ (.slice ((rd_T32 l0 x4_1).f11).A ((rd_T32 l0 x4_1).f11).n ((rd_T32 l0 x4_1).f11).c)).heap[gb194]? = some (.cells (cJ (rd_T32 l0 x4_1)) 32 (0, 0))) := ⟨by (with_reducible repeat first | apply blk_drewN | apply blk_drew | apply blk_alloc); refine blk_put (cs := #[.int .i64 ((rd_T32 l0 x4_1).f0), .int .i64 ((rd_T32 l0 x4_1).f1), .int .i64 ((rd_T32 l0 x4_1).f2), .int .i64 ((rd_T32 l0 x4_1).f3), .int .i64 ((rd_T32 l0 x4_1).f4), .int .i64 ((rd_T32 l0 x4_1).f5), .int .i64 ((rd_T32 l0 x4_1).f6), .int .i64 ((rd_T32 l0 x4_1).f7), .int .i64 ((rd_T32 l0 x4_1).f8), .int .i64 ((rd_T32 l0 x4_1).f9), .int .i64 ((rd_T32 l0 x4_1).f10), .slice none 0 0]) ?_ 11 _ rfl; (with_reducible repeat first | apply blk_drewN | apply blk_drew | apply blk_alloc); refine blk_put (cs := #[.int .i64 ((rd_T32 l0 x4_1).f0), .int .i64 ((rd_T32 l0 x4_1).f1), .int .i64 ((rd_T32 l0 x4_1).f2), .int .i64 ((rd_T32 l0 x4_1).f3), .int .i64 ((rd_T32 l0 x4_1).f4), .int .i64 ((rd_T32 l0 x4_1).f5), .int .i64 ((rd_T32 l0 x4_1).f6), .int .i64 ((rd_T32 l0 x4_1).f7), .int .i64 ((rd_T32 l0 x4_1).f8), .int .i64 ((rd_T32 l0 x4_1).f9), .int .i64 0, .slice none 0 0]) ?_ 10 _ rfl; (with_reducible repeat first | apply blk_drewN | apply blk_drew | apply blk_alloc); refine blk_put (cs := #[.int .i64 ((rd_T32 l0 x4_1).f0), .int .i64 ((rd_T32 l0 x4_1).f1), .int .i64 ((rd_T32 l0 x4_1).f2), .int .i64 ((rd_T32 l0 x4_1).f3), .int .i64 ((rd_T32 l0 x4_1).f4), .int .i64 ((rd_T32 l0 x4_1).f5), .int .i64 ((rd_T32 l0 x4_1).f6), .int .i64 ((rd_T32 l0 x4_1).f7), .int .i64 ((rd_T32 l0 x4_1).f8), .int .i64 0, .int .i64 0, .slice none 0 0]) ?_ 9 _ rfl; (with_reducible repeat first | apply blk_drewN | apply blk_drew | apply blk_alloc); refine blk_put (cs := #[.int .i64 ((rd_T32 l0 x4_1).f0), .int .i64 ((rd_T32 l0 x4_1).f1), .int .i64 ((rd_T32 l0 x4_1).f2), .int .i64 ((rd_T32 l0 x4_1).f3), .int .i64 ((rd_T32 l0 x4_1).f4), .int .i64 ((rd_T32 l0 x4_1).f5), .int .i64 ((rd_T32 l0 x4_1).f6), .int .i64 ((rd_T32 l0 x4_1).f7), .int .i64 0, .int .i64 0, .int .i64 0, .slice none 0 0]) ?_ 8 _ rfl; (with_reducible repeat first | apply blk_drewN | apply blk_drew | apply blk_alloc); refine blk_put (cs := #[.int .i64 ((rd_T32 l0 x4_1).f0), .int .i64 ((rd_T32 l0 x4_1).f1), .int .i64 ((rd_T32 l0 x4_1).f2), .int .i64 ((rd_T32 l0 x4_1).f3), .int .i64 ((rd_T32 l0 x4_1).f4), .int .i64 ((rd_T32 l0 x4_1).f5), .int .i64 ((rd_T32 l0 x4_1).f6), .int .i64 0, .int .i64 0, .int .i64 0, .int .i64 0, .slice none 0 0]) ?_ 7 _ rfl; (with_reducible repeat first | apply blk_drewN | apply blk_drew | apply blk_alloc); refine blk_put (cs := #[.int .i64 ((rd_T32 l0 x4_1).f0), .int .i64 ((rd_T32 l0 x4_1).f1), .int .i64 ((rd_T32 l0 x4_1).f2), .int .i64 ((rd_T32 l0 x4_1).f3), .int .i64 ((rd_T32 l0 x4_1).f4), .int .i64 ((rd_T32 l0 x4_1).f5), .int .i64 0, .int .i64 0, .int .i64 0, .int .i64 0, .int .i64 0, .slice none 0 0]) ?_ 6 _ rfl; (with_reducible repeat first | apply blk_drewN | apply blk_drew | apply blk_alloc); refine blk_put (cs := #[.int .i64 ((rd_T32 l0 x4_1).f0), .int .i64 ((rd_T32 l0 x4_1).f1), .int .i64 ((rd_T32 l0 x4_1).f2), .int .i64 ((rd_T32 l0 x4_1).f3), .int .i64 ((rd_T32 l0 x4_1).f4), .int .i64 0, .int .i64 0, .int .i64 0, .int .i64 0, .int .i64 0, .int .i64 0, .slice none 0 0]) ?_ 5 _ rfl; (with_reducible repeat first | apply blk_drewN | apply blk_drew | apply blk_alloc); refine blk_put (cs := #[.int .i64 ((rd_T32 l0 x4_1).f0), .int .i64 ((rd_T32 l0 x4_1).f1), .int .i64 ((rd_T32 l0 x4_1).f2), .int .i64 ((rd_T32 l0 x4_1).f3), .int .i64 0, .int .i64 0, .int .i64 0, .int .i64 0, .int .i64 0, .int .i64 0, .int .i64 0, .slice none 0 0]) ?_ 4 _ rfl; (with_reducible repeat first | apply blk_drewN | apply blk_drew | apply blk_alloc); refine blk_put (cs := #[.int .i64 ((rd_T32 l0 x4_1).f0), .int .i64 ((rd_T32 l0 x4_1).f1), .int .i64 ((rd_T32 l0 x4_1).f2), .int .i64 0, .int .i64 0, .int .i64 0, .int .i64 0, .int .i64 0, .int .i64 0, .int .i64 0, .int .i64 0, .slice none 0 0]) ?_ 3 _ rfl; (with_reducible repeat first | apply blk_drewN | apply blk_drew | apply blk_alloc); refine blk_put (cs := #[.int .i64 ((rd_T32 l0 x4_1).f0), .int .i64 ((rd_T32 l0 x4_1).f1), .int .i64 0, .int .i64 0, .int .i64 0, .int .i64 0, .int .i64 0, .int .i64 0, .int .i64 0, .int .i64 0, .int .i64 0, .slice none 0 0]) ?_ 2 _ rfl; (with_reducible repeat first | apply blk_drewN | apply blk_drew | apply blk_alloc); refine blk_put (cs := #[.int .i64 ((rd_T32 l0 x4_1).f0), .int .i64 0, .int .i64 0, .int .i64 0, .int .i64 0, .int .i64 0, .int .i64 0, .int .i64 0, .int .i64 0, .int .i64 0, .int .i64 0, .slice none 0 0]) ?_ 1 _ rfl; (with_reducible repeat first | apply blk_drewN | apply blk_drew | apply blk_alloc); refine blk_put (cs := #[.int .i64 0, .int .i64 0, .int .i64 0, .int .i64 0, .int .i64 0, .int .i64 0, .int .i64 0, .int .i64 0, .int .i64 0, .int .i64 0, .int .i64 0, .slice none 0 0]) ?_ 0 _ rfl; (with_reducible repeat first | apply blk_drewN | apply blk_drew | apply blk_alloc); exact BK194.out⟩
         have n2_ : Aside0 (Below w.heap.size w ((((((((((((w12.setCell ⟨gb194, 0, none⟩ (.int .i64 ((rd_T32 l0 x4_1).f0))).setCell ⟨gb194, 1, none⟩ (.int .i64 ((rd_T32 l0 x4_1).f1))).setCell ⟨gb194, 2, none⟩ (.int .i64 ((rd_T32 l0 x4_1).f2))).setCell ⟨gb194, 3, none⟩ (.int .i64 ((rd_T32 l0 x4_1).f3))).setCell ⟨gb194, 4, none⟩ (.int .i64 ((rd_T32 l0 x4_1).f4))).setCell ⟨gb194, 5, none⟩ (.int .i64 ((rd_T32 l0 x4_1).f5))).setCell ⟨gb194, 6, none⟩ (.int .i64 ((rd_T32 l0 x4_1).f6))).setCell ⟨gb194, 7, none⟩ (.int .i64 ((rd_T32 l0 x4_1).f7))).setCell ⟨gb194, 8, none⟩ (.int .i64 ((rd_T32 l0 x4_1).f8))).setCell ⟨gb194, 9, none⟩ (.int .i64 ((rd_T32 l0 x4_1).f9))).setCell ⟨gb194, 10, none⟩ (.int .i64 ((rd_T32 l0 x4_1).f10))).setCell ⟨gb194, 11, none⟩ (.slice ((rd_T32 l0 x4_1).f11).A ((rd_T32 l0 x4_1).f11).n ((rd_T32 l0 x4_1).f11).c))) := ⟨mBs HB.out⟩
         (try clear HO_3); (try clear BK194); (try clear HB)
         generalize ((((((((((((w12.setCell ⟨gb194, 0, none⟩ (.int .i64 ((rd_T32 l0 x4_1).f0))).setCell ⟨gb194, 1, none⟩ (.int .i64 ((rd_T32 l0 x4_1).f1))).setCell ⟨gb194, 2, none⟩ (.int .i64 ((rd_T32 l0 x4_1).f2))).setCell ⟨gb194, 3, none⟩ (.int .i64 ((rd_T32 l0 x4_1).f3))).setCell ⟨gb194, 4, none⟩ (.int .i64 ((rd_T32 l0 x4_1).f4))).setCell ⟨gb194, 5, none⟩ (.int .i64 ((rd_T32 l0 x4_1).f5))).setCell ⟨gb194, 6, none⟩ (.int .i64 ((rd_T32 l0 x4_1).f6))).setCell ⟨gb194, 7, none⟩ (.int .i64 ((rd_T32 l0 x4_1).f7))).setCell ⟨gb194, 8, none⟩ (.int .i64 ((rd_T32 l0 x4_1).f8))).setCell ⟨gb194, 9, none⟩ (.int .i64 ((rd_T32 l0 x4_1).f9))).setCell ⟨gb194, 10, none⟩ (.int .i64 ((rd_T32 l0 x4_1).f10))).setCell ⟨gb194, 11, none⟩ (.slice ((rd_T32 l0 x4_1).f11).A ((rd_T32 l0 x4_1).f11).n ((rd_T32 l0 x4_1).f11).c)) = w14 at n0_ n1_ n2_ ⊢
         have HO_3 := n0_
         have BK194 := n1_
         have HB := n2_
         clear n0_; clear n1_; clear n2_
         have n0_ := Aside0.mk (Kd.R_drew HO_3.out)
         have n1_ := Aside0.mk (blk_drew BK194.out)
         have n2_ := Aside0.mk (below_drew1 HB.out)
         clear HO_3; clear BK194; clear HB
         have HO_3 := n0_
         have BK194 := n1_
         have HB := n2_
         clear n0_; clear n1_; clear n2_
         refine start_ (n := 10) (S := fun w' => w'.cell? ⟨gb194, 0, none⟩ = some (.int .i64 ((rd_T32 l0 x4_1).f0)) ∧ w'.cell? ⟨gb194, 1, none⟩ = some (.int .i64 ((rd_T32 l0 x4_1).f1)) ∧ w'.cell? ⟨gb194, 2, none⟩ = some (.int .i64 ((rd_T32 l0 x4_1).f2)) ∧ w'.cell? ⟨gb194, 3, none⟩ = some (.int .i64 ((rd_T32 l0 x4_1).f3)) ∧ w'.cell? ⟨gb194, 4, none⟩ = some (.int .i64 ((rd_T32 l0 x4_1).f4)) ∧ w'.cell? ⟨gb194, 5, none⟩ = some (.int .i64 ((rd_T32 l0 x4_1).f5)) ∧ w'.cell? ⟨gb194, 6, none⟩ = some (.int .i64 ((rd_T32 l0 x4_1).f6)) ∧ w'.cell? ⟨gb194, 7, none⟩ = some (.int .i64 ((rd_T32 l0 x4_1).f7)) ∧ w'.cell? ⟨gb194, 8, none⟩ = some (.int .i64 ((rd_T32 l0 x4_1).f8)) ∧ w'.cell? ⟨gb194, 9, none⟩ = some (.int .i64 ((rd_T32 l0 x4_1).f9)) ∧ w'.cell? ⟨gb194, 10, none⟩ = some (.int .i64 ((rd_T32 l0 x4_1).f10)) ∧ w'.cell? ⟨gb194, 11, none⟩ = some (.slice ((rd_T32 l0 x4_1).f11).A ((rd_T32 l0 x4_1).f11).n ((rd_T32 l0 x4_1).f11).c)) (ds := [7, 9]) #[false, false, false, false, false, false, false, false, false, false] (by kernel_rfl) rfl rfl ⟨(blk_cell BK194.out 0).trans rfl, (blk_cell BK194.out 1).trans rfl, (blk_cell BK194.out 2).trans rfl, (blk_cell BK194.out 3).trans rfl, (blk_cell BK194.out 4).trans rfl, (blk_cell BK194.out 5).trans rfl, (blk_cell BK194.out 6).trans rfl, (blk_cell BK194.out 7).trans rfl, (blk_cell BK194.out 8).trans rfl, (blk_cell BK194.out 9).trans rfl, (blk_cell BK194.out 10).trans rfl, (blk_cell BK194.out 11).trans rfl⟩ (fun hHeld => ?_); refine with_tabW prebendref19_Held.tab6 prebendref19_Held.bits6 (fun HT_ HW_ => ?_)
         generalize w14.drew = w15 at HO_3 BK194 HB hHeld ⊢
         refine plan_ [(0, 21), (3, 24)] ?_
         iterate 2 (refine planP_ (v := ?_) (a' := ?_) rfl rfl (any_of HT_.out (by kernel_rfl)) (fun _ _ _ h => h) (Or.inl ⟨by rfl, ?_⟩) ?_ ?_; rotate_left; (intro w'; go_simp; with_reducible rfl); rotate_left; (simp only [Act.put, List.setIfInBounds_toArray, List.set_cons_zero, List.set_cons_succ, i64_w, i32_w]; rfl))
         refine planEnd_ ?_
         refine plan_ [(1, 22), (4, 25)] ?_
         iterate 2 (refine planT_ (v := ?_) (a' := ?_) rfl rfl (take_ofW HT_.out HW_.out (by kernel_rfl)) (fun _ _ _ h => h) (Or.inl ⟨by rfl, ?_⟩) hHeld ?_ ?_; rotate_left; (rintro w' ⟨s0, s1, s2, s3, s4, s5, s6, s7, s8, s9, s10, s11⟩; go_simp; with_reducible rfl); rotate_left; (simp only [Act.put, List.setIfInBounds_toArray, List.set_cons_zero, List.set_cons_succ, i64_w, i32_w]; rfl))
         refine planEnd_ ?_
         refine one_ (i := 2) (N := some 23) #[true, true, true, true, true, false, false, false, false, false] rfl rfl (one_of HT_.out (by kernel_rfl)) (by decide) (fun K hK => ?_)
         refine goes_ Try.func38 (by kernel_rfl) rfl #[.int .i64 ((rd_T32 l0 x4_1).f8), .int .i64 1125899906842624] (by rfl) rfl rfl mt ?_
         with_reducible refine (prebendref16_Held.calls ((rd_T32 l0 x4_1).f8) 1125899906842624 t195 _ A9.out).mono ?_
         rintro e w' ⟨rfl, ⟨nd, rfl⟩⟩
         refine ⟨_, rfl, ?_⟩
         refine hK.out _ _ ⟨(blk_cell BK194.out 0).trans rfl, (blk_cell BK194.out 1).trans rfl, (blk_cell BK194.out 2).trans rfl, (blk_cell BK194.out 3).trans rfl, (blk_cell BK194.out 4).trans rfl, (blk_cell BK194.out 5).trans rfl, (blk_cell BK194.out 6).trans rfl, (blk_cell BK194.out 7).trans rfl, (blk_cell BK194.out 8).trans rfl, (blk_cell BK194.out 9).trans rfl, (blk_cell BK194.out 10).trans rfl, (blk_cell BK194.out 11).trans rfl⟩ (fun hHeld => ?_)
         clear hK; clear K
         refine norm_ (a' := ?_) ?_ ?_
         rotate_left
         ·show Act.put _ (some 23) _ = _
          simp only [Act.put, List.setIfInBounds_toArray, List.set_cons_zero, List.set_cons_succ, i64_w, i32_w]
          rfl
         refine plan_ [(6, 27)] ?_
         refine planP_ (v := ?_) (a' := ?_) rfl rfl (any_of HT_.out (by kernel_rfl)) (fun _ _ _ h => h) (Or.inl ⟨by rfl, ?_⟩) ?_ ?_; rotate_left; (intro w'; go_simp; with_reducible rfl); rotate_left; (simp only [Act.put, List.setIfInBounds_toArray, List.set_cons_zero, List.set_cons_succ, i64_w, i32_w]; rfl)
         refine planEnd_ ?_
         refine one_ (i := 5) (N := some 26) #[true, true, true, true, true, true, true, false, false, false] rfl rfl (one_of HT_.out (by kernel_rfl)) (by decide) (fun K hK => ?_)
         refine goes_ Try.func38 (by kernel_rfl) rfl #[.int .i64 ((rd_T32 l0 x4_1).f3), .int .i64 1125899906842624] (by rfl) rfl rfl mt ?_
         with_reducible refine (prebendref16_Held.calls ((rd_T32 l0 x4_1).f3) 1125899906842624 t196 _ A10.out).mono ?_
         rintro e w' ⟨rfl, ⟨nd, rfl⟩⟩
         refine ⟨_, rfl, ?_⟩
         refine hK.out _ _ ⟨(blk_cell BK194.out 0).trans rfl, (blk_cell BK194.out 1).trans rfl, (blk_cell BK194.out 2).trans rfl, (blk_cell BK194.out 3).trans rfl, (blk_cell BK194.out 4).trans rfl, (blk_cell BK194.out 5).trans rfl, (blk_cell BK194.out 6).trans rfl, (blk_cell BK194.out 7).trans rfl, (blk_cell BK194.out 8).trans rfl, (blk_cell BK194.out 9).trans rfl, (blk_cell BK194.out 10).trans rfl, (blk_cell BK194.out 11).trans rfl⟩ (fun hHeld => ?_)
         clear hK; clear K
         refine norm_ (a' := ?_) ?_ ?_
         rotate_left
         ·show Act.put _ (some 26) _ = _
          simp only [Act.put, List.setIfInBounds_toArray, List.set_cons_zero, List.set_cons_succ, i64_w, i32_w]
          rfl
         refine last_ (i := 7) (N := none) #[true, true, true, true, true, true, true, true, false, false] rfl rfl (one_of HT_.out (by kernel_rfl)) (by decide) (fun K hK => ?_)
         have hs16 : w15.cell? ⟨gb194, 8, none⟩ = some (.int .i64 ((rd_T32 l0 x4_1).f8)) := (blk_cell BK194.out 8).trans rfl
         have hfs16 := blk_frozen BK194.out 8
         refine skip_ (w1 := ?_) (by rfl) rfl ?_ ?_
         rotate_left
         ·go_simp
          rfl
         refine hK.out _ _ ?_
         clear hK; clear K
         refine plan_ [(8, 28)] ?_
         refine planP_ (v := ?_) (a' := ?_) rfl rfl (any_of HT_.out (by kernel_rfl)) (fun _ _ _ h => h) (Or.inl ⟨by rfl, ?_⟩) ?_ ?_; rotate_left; (intro w'; go_simp; with_reducible rfl); rotate_left; (simp only [Act.put, List.setIfInBounds_toArray, List.set_cons_zero, List.set_cons_succ, i64_w, i32_w]; rfl)
         refine planEnd_ ?_
         refine last_ (i := 9) (N := none) #[true, true, true, true, true, true, true, true, true, true] rfl rfl (one_of HT_.out (by kernel_rfl)) (by decide) (fun K hK => ?_)
         have hs17 : w15.cell? ⟨gb194, 3, none⟩ = some (.int .i64 ((rd_T32 l0 x4_1).f3)) := (blk_cell BK194.out 3).trans rfl
         have hfs17 := blk_frozen BK194.out 3
         refine skip_ (w1 := ?_) (by rfl) rfl ?_ ?_
         rotate_left
         ·go_simp
          rfl
         refine hK.out _ _ ?_
         clear hK; clear K
         refine done_ (done_of HT_.out (by kernel_rfl)) ?_
         have hcz18_0 : w15.cell? ⟨gb194, 0, none⟩ = some (.int .i64 ((rd_T32 l0 x4_1).f0)) := (blk_cell BK194.out 0).trans rfl
         have hcz18_1 : w15.cell? ⟨gb194, 1, none⟩ = some (.int .i64 ((rd_T32 l0 x4_1).f1)) := (blk_cell BK194.out 1).trans rfl
         have hcz18_2 : w15.cell? ⟨gb194, 2, none⟩ = some (.int .i64 ((rd_T32 l0 x4_1).f2)) := (blk_cell BK194.out 2).trans rfl
         have hcz18_3 : w15.cell? ⟨gb194, 3, none⟩ = some (.int .i64 ((rd_T32 l0 x4_1).f3)) := (blk_cell BK194.out 3).trans rfl
         have hcz18_4 : w15.cell? ⟨gb194, 4, none⟩ = some (.int .i64 ((rd_T32 l0 x4_1).f4)) := (blk_cell BK194.out 4).trans rfl
         have hcz18_5 : w15.cell? ⟨gb194, 5, none⟩ = some (.int .i64 ((rd_T32 l0 x4_1).f5)) := (blk_cell BK194.out 5).trans rfl
         have hcz18_6 : w15.cell? ⟨gb194, 6, none⟩ = some (.int .i64 ((rd_T32 l0 x4_1).f6)) := (blk_cell BK194.out 6).trans rfl
         have hcz18_7 : w15.cell? ⟨gb194, 7, none⟩ = some (.int .i64 ((rd_T32 l0 x4_1).f7)) := (blk_cell BK194.out 7).trans rfl
         have hcz18_8 : w15.cell? ⟨gb194, 8, none⟩ = some (.int .i64 ((rd_T32 l0 x4_1).f8)) := (blk_cell BK194.out 8).trans rfl
         have hcz18_9 : w15.cell? ⟨gb194, 9, none⟩ = some (.int .i64 ((rd_T32 l0 x4_1).f9)) := (blk_cell BK194.out 9).trans rfl
         have hcz18_10 : w15.cell? ⟨gb194, 10, none⟩ = some (.int .i64 ((rd_T32 l0 x4_1).f10)) := (blk_cell BK194.out 10).trans rfl
         have hcz18_11 : w15.cell? ⟨gb194, 11, none⟩ = some (.slice ((rd_T32 l0 x4_1).f11).A ((rd_T32 l0 x4_1).f11).n ((rd_T32 l0 x4_1).f11).c) := (blk_cell BK194.out 11).trans rfl
         have hfz18_0 := blk_frozen BK194.out 0
         have hfz18_1 := blk_frozen BK194.out 1
         have hfz18_2 := blk_frozen BK194.out 2
         have hfz18_3 := blk_frozen BK194.out 3
         have hfz18_4 := blk_frozen BK194.out 4
         have hfz18_5 := blk_frozen BK194.out 5
         have hfz18_6 := blk_frozen BK194.out 6
         have hfz18_7 := blk_frozen BK194.out 7
         have hfz18_8 := blk_frozen BK194.out 8
         have hfz18_9 := blk_frozen BK194.out 9
         have hfz18_10 := blk_frozen BK194.out 10
         have hfz18_11 := blk_frozen BK194.out 11
         try go_wp2_with (first | ((with_reducible refine gate_builtin (b := .append) (xs := #[.tmp 29, .tmp 31]) rfl ?_); at_builtin; refine Kd.R_append k32 (w0 := w) w.heap.size rfl (.tmp 29) (.tmp 31) 22 32 (.agg #[(.int .i64 0), (.int .i64 0), (.int .i64 0), (.int .i64 0), (.int .i64 0), (.int .i64 0), (.int .i64 0), (.int .i64 0), (.int .i64 0), (.int .i64 0), (.int .i64 0), (.slice none 0 0)]) 112 rfl Try.underlying22 info32 rfl (by decide) (by omega) u3 x3_1 (⟨(rd_T32 l0 x4_1).f0, (rd_T32 l0 x4_1).f1, (rd_T32 l0 x4_1).f2, t196, (rd_T32 l0 x4_1).f4, (rd_T32 l0 x4_1).f5, (rd_T32 l0 x4_1).f6, (rd_T32 l0 x4_1).f7, t195, (rd_T32 l0 x4_1).f9, (rd_T32 l0 x4_1).f10, (rd_T32 l0 x4_1).f11⟩ : S32) [.int .i64 ((rd_T32 l0 x4_1).f0), .int .i64 ((rd_T32 l0 x4_1).f1), .int .i64 ((rd_T32 l0 x4_1).f2), .int .i64 t196, .int .i64 ((rd_T32 l0 x4_1).f4), .int .i64 ((rd_T32 l0 x4_1).f5), .int .i64 ((rd_T32 l0 x4_1).f6), .int .i64 ((rd_T32 l0 x4_1).f7), .int .i64 t195, .int .i64 ((rd_T32 l0 x4_1).f9), .int .i64 ((rd_T32 l0 x4_1).f10), .slice ((rd_T32 l0 x4_1).f11).A ((rd_T32 l0 x4_1).f11).n ((rd_T32 l0 x4_1).f11).c] (fun k_ => k_ ≠ gb194) (fun _ => False) rfl (by first | (go_simp; done) | (go_simp; rfl)) ?aP (fun _ hk => hk.elim) ?aF ?aO ?aB ?aS ?aL ?_; (case aP => exact k32_mkM _ _ _ (⟨(rd_T32 l0 x4_1).f0, (rd_T32 l0 x4_1).f1, (rd_T32 l0 x4_1).f2, t196, (rd_T32 l0 x4_1).f4, (rd_T32 l0 x4_1).f5, (rd_T32 l0 x4_1).f6, (rd_T32 l0 x4_1).f7, t195, (rd_T32 l0 x4_1).f9, (rd_T32 l0 x4_1).f10, (rd_T32 l0 x4_1).f11⟩ : S32)); (case aB => exact (mBs HB.out)); (case aF => exact (fun k_ hk => Kd.freshB (g := gb194) (o := .cells #[.int .i64 ((rd_T32 l0 x4_1).f0), .int .i64 ((rd_T32 l0 x4_1).f1), .int .i64 ((rd_T32 l0 x4_1).f2), .int .i64 t196, .int .i64 ((rd_T32 l0 x4_1).f4), .int .i64 ((rd_T32 l0 x4_1).f5), .int .i64 ((rd_T32 l0 x4_1).f6), .int .i64 ((rd_T32 l0 x4_1).f7), .int .i64 t195, .int .i64 ((rd_T32 l0 x4_1).f9), .int .i64 ((rd_T32 l0 x4_1).f10), .slice ((rd_T32 l0 x4_1).f11).A ((rd_T32 l0 x4_1).f11).n ((rd_T32 l0 x4_1).f11).c] 32 (0, 0)) (by (with_reducible repeat first | apply blk_drewN | apply blk_drew | apply blk_alloc); refine blk_put (cs := #[.int .i64 ((rd_T32 l0 x4_1).f0), .int .i64 ((rd_T32 l0 x4_1).f1), .int .i64 ((rd_T32 l0 x4_1).f2), .int .i64 ((rd_T32 l0 x4_1).f3), .int .i64 ((rd_T32 l0 x4_1).f4), .int .i64 ((rd_T32 l0 x4_1).f5), .int .i64 ((rd_T32 l0 x4_1).f6), .int .i64 ((rd_T32 l0 x4_1).f7), .int .i64 t195, .int .i64 ((rd_T32 l0 x4_1).f9), .int .i64 ((rd_T32 l0 x4_1).f10), .slice ((rd_T32 l0 x4_1).f11).A ((rd_T32 l0 x4_1).f11).n ((rd_T32 l0 x4_1).f11).c]) ?_ 3 _ rfl; (with_reducible repeat first | apply blk_drewN | apply blk_drew | apply blk_alloc); refine blk_put (cs := (cJ (rd_T32 l0 x4_1))) ?_ 8 _ rfl; (with_reducible repeat first | apply blk_drewN | apply blk_drew | apply blk_alloc); exact BK194.out) k_ hk)); (case aO => exact (by (with_reducible repeat (first | apply Kd.R_alloc | apply Kd.R_drewN | apply Kd.R_drew)); exact Kd.R_mono (Kd.R_fa gb194 3 (Kd.R_fa gb194 8 (Kd.R_mono HO_3.out (fun k_ hk => (⟨hk, hk⟩ : _ ∧ k_ ≠ gb194))) (.int .i64 t195)) (.int .i64 t196)) (fun _ hk => hk.1))); (case aS => exact (below_size (mBs HB.out))); (case aL => have := LMc11.out; omega); intro v198 w19 ho hb hg hat; rw [← Ny197.out] at ho; have n0_ := Aside0.mk (blk_grown (g := gb194) (o := .cells #[.int .i64 ((rd_T32 l0 x4_1).f0), .int .i64 ((rd_T32 l0 x4_1).f1), .int .i64 ((rd_T32 l0 x4_1).f2), .int .i64 t196, .int .i64 ((rd_T32 l0 x4_1).f4), .int .i64 ((rd_T32 l0 x4_1).f5), .int .i64 ((rd_T32 l0 x4_1).f6), .int .i64 ((rd_T32 l0 x4_1).f7), .int .i64 t195, .int .i64 ((rd_T32 l0 x4_1).f9), .int .i64 ((rd_T32 l0 x4_1).f10), .slice ((rd_T32 l0 x4_1).f11).A ((rd_T32 l0 x4_1).f11).n ((rd_T32 l0 x4_1).f11).c] 32 (0, 0)) (by (with_reducible repeat first | apply blk_drewN | apply blk_drew | apply blk_alloc); refine blk_put (cs := #[.int .i64 ((rd_T32 l0 x4_1).f0), .int .i64 ((rd_T32 l0 x4_1).f1), .int .i64 ((rd_T32 l0 x4_1).f2), .int .i64 ((rd_T32 l0 x4_1).f3), .int .i64 ((rd_T32 l0 x4_1).f4), .int .i64 ((rd_T32 l0 x4_1).f5), .int .i64 ((rd_T32 l0 x4_1).f6), .int .i64 ((rd_T32 l0 x4_1).f7), .int .i64 t195, .int .i64 ((rd_T32 l0 x4_1).f9), .int .i64 ((rd_T32 l0 x4_1).f10), .slice ((rd_T32 l0 x4_1).f11).A ((rd_T32 l0 x4_1).f11).n ((rd_T32 l0 x4_1).f11).c]) ?_ 3 _ rfl; (with_reducible repeat first | apply blk_drewN | apply blk_drew | apply blk_alloc); refine blk_put (cs := (cJ (rd_T32 l0 x4_1))) ?_ 8 _ rfl; (with_reducible repeat first | apply blk_drewN | apply blk_drew | apply blk_alloc); exact BK194.out) hg (Kd.R_away HO_3.out (fun _ hk => hk))); have n1_ := Aside0.mk (hb); have n2_ := Aside0.mk (ho); clear BK194; clear HB; clear HO_3; have BK194 := n0_; have HB := n1_; have HO199 := n2_; clear n0_ n1_ n2_; clear ho hb hg hat))
         go_roundg kj3
         case measure => have := HK1.out; have := HJ3.out; omega
         case rel => exact ⟨(y197), (wrap64 (x4_1 + 1)), ez, H', ⟨by have := HK1.out; have := HJ3.out; omega⟩, ⟨by (with_reducible repeat (first | apply Kd.R_alloc | apply Kd.R_drewN | apply Kd.R_drew)); exact Kd.R_mono HO199.out (fun _ hk => trivial)⟩, ⟨mBs HB.out⟩⟩
        ·rw [if_neg c11] at H
         exact absurd H (by simp)
       ·rw [if_neg c8] at H
        exact absurd H (by simp)
      ·rw [if_neg c7] at H
       exact absurd H (by simp)
     ·replace c6 := Bool.eq_false_iff.mpr c6
      subst c6
      have H1 : (some x3_1) = some r := by rw [if_neg (show ¬ (false = true) by decide)] at H; exact H
      clear H
      have H := H1
      clear H1
      obtain rfl := Option.some.inj H
      go_wp2
      go_ret
      exact ⟨_, by first | rfl | (simp [errW_none, errW_some] <;> rfl) | (simp [*, errW_none, errW_some] <;> rfl), mR HO_3.out, by repeat (first | (with_reducible first | exact HB.out | apply below_alloc | apply pw_below_drewN | apply below_drew1) | exact HB.out)⟩

end Go.Proofs.Ytkhfgflcanmefaa.PAll
end
section
set_option linter.unusedVariables false
set_option linter.unusedSimpArgs false
namespace Go.Proofs.Ytkhfgflcanmefaa.Pure
open Go Go.RowKit Go.Proofs.Ytkhfgflcanmefaa.PAll Go.Proofs.YtkhfgflcanmefaaW.PrintWords Go.Proofs.YtkhfgflcanmefaaW.PrintLast

theorem awake_ev : Ev (fun k => prebendlaw19_awake.f k) true := by
  refine ⟨80, fun k hk => ?_⟩
  have h : prebendlaw19_awake.f 80 = some true := by decide +kernel
  obtain ⟨d, rfl⟩ : ∃ d, k = 80 + d := ⟨k - 80, by omega⟩
  induction d with
  | zero => exact h
  | succ d ih => exact prebendlaw19_awake.mono _ _ (ih (by omega))
def rs (l : List S32) : List S32 := l.filter (fun x => x.f7 == 3)
theorem rdJ {l : List S32} {i : Nat} (h : i < l.length) : rd_T32 l (i : Int) = l[i] := by simp [rd_T32, List.getD_eq_getElem?_getD, h]
theorem run1 (x : S32) : job_running_1.f x.f0 x.f1 x.f2 x.f3 x.f4 x.f5 x.f6 x.f7 x.f8 x.f9 x.f10 x.f11 = some (x.f7 != 3) := rfl
theorem take1 {l : List S32} {i : Nat} (h : i < l.length) : l.take (i + 1) = l.take i ++ [l[i]] := (List.take_append_getElem h).symm
theorem idx_l0 (l : List S32) (hl : l.length ≤ 1000) : ∀ (d i : Nat), i + d = l.length → (∀ x ∈ l.take i, x.f7 = 3) → ∃ r : Int, Ev (fun k => slices_IndexFunc_Job__job_running_1.l0 k l (l.length : Int) (i : Int)) r ∧
    ((r = -1 ∧ ∀ x ∈ l, x.f7 = 3) ∨ ∃ p : Nat, r = (p : Int) ∧ ∃ hp : p < l.length, (∀ x ∈ l.take p, x.f7 = 3) ∧ l[p].f7 ≠ 3)
  | 0, i, h, ha => by
    refine ⟨-1, ⟨1, fun k hk => ?_⟩, .inl ⟨rfl, fun x hx => ha x (by rw [List.take_of_length_le (by omega)]; exact hx)⟩⟩
    obtain ⟨k, rfl⟩ : ∃ k', k = k' + 1 := ⟨k - 1, by omega⟩
    show slices_IndexFunc_Job__job_running_1.l0 (k + 1) l (l.length : Int) (i : Int) = _
    rw [slices_IndexFunc_Job__job_running_1.l0.eq_2, if_neg (by omega)]
  | d + 1, i, h, ha => by
    have hi : i < l.length := by omega
    have ew : wrap64 ((i : Int) + 1) = ((i + 1 : Nat) : Int) := by unfold wrap64; omega
    by_cases c : l[i].f7 = 3
    · obtain ⟨r, ⟨K, hK⟩, hr⟩ := idx_l0 l hl d (i + 1) (by omega) (fun x hx => by
        rw [take1 hi] at hx
        rcases List.mem_append.mp hx with hx | hx
        · exact ha x hx
        · rw [List.mem_singleton.mp hx]; exact c)
      refine ⟨r, ⟨K + 1, fun k hk => ?_⟩, hr⟩
      obtain ⟨k, rfl⟩ : ∃ k', k = k' + 1 := ⟨k - 1, by omega⟩
      have hk2 : slices_IndexFunc_Job__job_running_1.l0 k l (l.length : Int) ((i + 1 : Nat) : Int) = some r := hK k (by omega)
      show slices_IndexFunc_Job__job_running_1.l0 (k + 1) l (l.length : Int) (i : Int) = _
      have hc : (l[i].f7 != 3) = false := by simp [c]
      rw [slices_IndexFunc_Job__job_running_1.l0.eq_2, if_pos (by omega), if_pos (by omega), if_pos (by omega), rdJ hi, run1, Option.bind_some, hc, if_neg (by decide), ew, hk2]
    · refine ⟨i, ⟨1, fun k hk => ?_⟩, .inr ⟨i, rfl, hi, ha, c⟩⟩
      obtain ⟨k, rfl⟩ : ∃ k', k = k' + 1 := ⟨k - 1, by omega⟩
      show slices_IndexFunc_Job__job_running_1.l0 (k + 1) l (l.length : Int) (i : Int) = _
      have hc : (l[i].f7 != 3) = true := by simp [c]
      rw [slices_IndexFunc_Job__job_running_1.l0.eq_2, if_pos (by omega), if_pos (by omega), if_pos (by omega), rdJ hi, run1, Option.bind_some, hc, if_pos rfl]
theorem del_l0 (l : List S32) (hl : l.length ≤ 1000) : ∀ (d j i : Nat) (x0 : List S32), j + d = l.length → x0.length = l.length → i ≤ j → x0.take i = rs (l.take j) → x0.drop j = l.drop j → Ev (fun k => slices_DeleteFunc_Job__job_running_1.l0 k x0 (i : Int) (j : Int)) (rs l)
  | 0, j, i, x0, h, hx, hij, ht, hd => by
    refine ⟨1, fun k hk => ?_⟩
    obtain ⟨k, rfl⟩ : ∃ k', k = k' + 1 := ⟨k - 1, by omega⟩
    show slices_DeleteFunc_Job__job_running_1.l0 (k + 1) x0 (i : Int) (j : Int) = _
    rw [slices_DeleteFunc_Job__job_running_1.l0.eq_2, if_neg (by omega), if_pos (by omega), if_pos (by omega), Int.toNat_natCast, ht, List.take_of_length_le (by omega)]
  | d + 1, j, i, x0, h, hx, hij, ht, hd => by
    have hj : j < l.length := by omega
    have hj0 : j < x0.length := by omega
    have ew : wrap64 ((j : Int) + 1) = ((j + 1 : Nat) : Int) := by unfold wrap64; omega
    have ei : wrap64 ((i : Int) + 1) = ((i + 1 : Nat) : Int) := by unfold wrap64; omega
    rw [List.drop_eq_getElem_cons hj, List.drop_eq_getElem_cons hj0] at hd
    injection hd with hd1 hd2
    by_cases c : l[j].f7 = 3
    · have hc : (l[j].f7 != 3) = false := by simp [c]
      obtain ⟨K, hK⟩ := del_l0 l hl d (j + 1) (i + 1) (x0.set i l[j]) (by omega) (by simp; omega) (by omega) (by
        have hi : i < x0.length := by omega
        have h1 : (x0.set i l[j]).take (i + 1) = x0.take i ++ [l[j]] := by
          rw [take1 (by rw [List.length_set]; exact hi), List.take_set_of_le (Nat.le_refl i), List.getElem_set_self]
        rw [h1, ht, take1 hj]
        unfold rs
        rw [List.filter_append]
        congr 1
        simp [c]) (by rw [List.drop_set_of_lt (by omega)]; exact hd2)
      refine ⟨K + 1, fun k hk => ?_⟩
      obtain ⟨k, rfl⟩ : ∃ k', k = k' + 1 := ⟨k - 1, by omega⟩
      have hk2 : slices_DeleteFunc_Job__job_running_1.l0 k (x0.set i l[j]) ((i + 1 : Nat) : Int) ((j + 1 : Nat) : Int) = some (rs l) := hK k (by omega)
      show slices_DeleteFunc_Job__job_running_1.l0 (k + 1) x0 (i : Int) (j : Int) = _
      rw [slices_DeleteFunc_Job__job_running_1.l0.eq_2, if_pos (by omega), if_pos (by omega), rdJ hj0, hd1, run1, Option.bind_some, hc, if_neg (by decide), if_pos (by omega), if_pos (by omega), ew, ei, Int.toNat_natCast]
      exact hk2
    · have hc : (l[j].f7 != 3) = true := by simp [c]
      obtain ⟨K, hK⟩ := del_l0 l hl d (j + 1) i x0 (by omega) hx (by omega) (by
        rw [ht, take1 hj]
        unfold rs
        rw [List.filter_append]
        simp [c]) hd2
      refine ⟨K + 1, fun k hk => ?_⟩
      obtain ⟨k, rfl⟩ : ∃ k', k = k' + 1 := ⟨k - 1, by omega⟩
      have hk2 : slices_DeleteFunc_Job__job_running_1.l0 k x0 (i : Int) ((j + 1 : Nat) : Int) = some (rs l) := hK k (by omega)
      show slices_DeleteFunc_Job__job_running_1.l0 (k + 1) x0 (i : Int) (j : Int) = _
      rw [slices_DeleteFunc_Job__job_running_1.l0.eq_2, if_pos (by omega), if_pos (by omega), rdJ hj0, hd1, run1, Option.bind_some, hc, if_pos rfl, ew, hk2]
theorem rs_all {l : List S32} (h : ∀ x ∈ l, x.f7 = 3) : rs l = l := List.filter_eq_self.mpr (fun x hx => by simp [h x hx])
theorem rs_len (l : List S32) : (rs l).length ≤ l.length := List.length_filter_le _ _
theorem run_ev (l : List S32) (hl : l.length ≤ 1000) : Ev (fun k => job_running.f k l) (rs l) := by
  obtain ⟨r, ⟨K, hK⟩, hr⟩ := idx_l0 l hl l.length 0 (by omega) (by simp)
  have clone : slices_Clone_Job.f l = some l := by
    unfold slices_Clone_Job.f
    rw [Option.bind_some, if_pos (by simp; omega), List.nil_append]
  rcases hr with ⟨rfl, ha⟩ | ⟨p, rfl, hp, ha, hn⟩
  · refine ⟨K, fun k hk => ?_⟩
    have hk2 : slices_IndexFunc_Job__job_running_1.l0 k l (l.length : Int) ((0 : Nat) : Int) = some (-1) := hK k hk
    show job_running.f k l = _
    unfold job_running.f slices_DeleteFunc_Job__job_running_1.f slices_IndexFunc_Job__job_running_1.f
    rw [clone, Option.bind_some]
    have hk3 : slices_IndexFunc_Job__job_running_1.l0 k l (l.length : Int) 0 = some (-1) := hk2
    rw [hk3, Option.bind_some, if_pos rfl, rs_all ha]
    rfl
  · have ew : wrap64 ((p : Int) + 1) = ((p + 1 : Nat) : Int) := by unfold wrap64; omega
    obtain ⟨K2, hK2⟩ := del_l0 l hl (l.length - (p + 1)) (p + 1) p l (by omega) rfl (by omega) (by
      rw [take1 hp]
      unfold rs
      rw [List.filter_append]
      have h1 : (l.take p).filter (fun x => x.f7 == 3) = l.take p := rs_all ha
      rw [h1]
      simp [hn]) rfl
    refine ⟨K + K2, fun k hk => ?_⟩
    have hk2 : slices_IndexFunc_Job__job_running_1.l0 k l (l.length : Int) ((0 : Nat) : Int) = some (p : Int) := hK k (by omega)
    have hk3 : slices_IndexFunc_Job__job_running_1.l0 k l (l.length : Int) 0 = some (p : Int) := hk2
    have hk4 : slices_DeleteFunc_Job__job_running_1.l0 k l (p : Int) ((p + 1 : Nat) : Int) = some (rs l) := hK2 k (by omega)
    show job_running.f k l = _
    unfold job_running.f slices_DeleteFunc_Job__job_running_1.f slices_IndexFunc_Job__job_running_1.f
    rw [clone, Option.bind_some, hk3, Option.bind_some, if_neg (by omega), ew, hk4]
    rfl
def due (l : List S32) (now : Int) : List Int := ((isort leD (rs l)).filter (fun x => decide (endOf x ≤ now))).map (·.f0)
theorem due_l0 (r : List S32) (hl : r.length ≤ 1000) (now : Int) (m : Int) (hm : m = (r.length : Int)) : ∀ (d i : Nat) (acc : List Int), i + d = r.length → acc.length ≤ i → Ev (fun k => job_Due.l0 k now acc r m (i : Int)) (acc ++ ((r.drop i).filter (fun x => decide (endOf x ≤ now))).map (·.f0))
  | 0, i, acc, h, ha => by
    refine ⟨1, fun k hk => ?_⟩
    obtain ⟨k, rfl⟩ : ∃ k', k = k' + 1 := ⟨k - 1, by omega⟩
    show job_Due.l0 (k + 1) now acc r m (i : Int) = _
    rw [job_Due.l0.eq_2, if_neg (by omega), List.drop_eq_nil_of_le (by omega)]
    simp [slices_Clip_int.f]
  | d + 1, i, acc, h, ha => by
    have hi : i < r.length := by omega
    have ew : wrap64 ((i : Int) + 1) = ((i + 1 : Nat) : Int) := by unfold wrap64; omega
    by_cases c : endOf r[i] ≤ now
    · obtain ⟨K, hK⟩ := due_l0 r hl now m hm d (i + 1) (acc ++ [r[i].f0]) (by omega) (by simp; omega)
      refine ⟨K + 1, fun k hk => ?_⟩
      obtain ⟨k, rfl⟩ : ∃ k', k = k' + 1 := ⟨k - 1, by omega⟩
      have hk2 : job_Due.l0 k now (acc ++ [r[i].f0]) r m ((i + 1 : Nat) : Int) = some _ := hK k (by omega)
      have c' : wrap64 (r[i].f8 + r[i].f3) ≤ now := c
      show job_Due.l0 (k + 1) now acc r m (i : Int) = _
      rw [job_Due.l0.eq_2, if_pos (by omega), if_pos (by omega), if_pos (by omega), rdJ hi, if_pos c', if_pos (by omega), ew, hk2, List.drop_eq_getElem_cons hi, List.filter_cons, if_pos (by simpa using c), List.map_cons, List.append_assoc, List.singleton_append]
    · obtain ⟨K, hK⟩ := due_l0 r hl now m hm d (i + 1) acc (by omega) (by omega)
      refine ⟨K + 1, fun k hk => ?_⟩
      obtain ⟨k, rfl⟩ : ∃ k', k = k' + 1 := ⟨k - 1, by omega⟩
      have hk2 : job_Due.l0 k now acc r m ((i + 1 : Nat) : Int) = some _ := hK k (by omega)
      have c' : ¬ (wrap64 (r[i].f8 + r[i].f3) ≤ now) := c
      show job_Due.l0 (k + 1) now acc r m (i : Int) = _
      rw [job_Due.l0.eq_2, if_pos (by omega), if_pos (by omega), if_pos (by omega), rdJ hi, if_neg c', ew, hk2, List.drop_eq_getElem_cons hi, List.filter_cons, if_neg (by simpa using c)]
theorem due_ev (l : List S32) (hl : l.length ≤ 1000) (now : Int) : Ev (fun k => job_Due.f k l now) (due l now) := by
  obtain ⟨K1, hK1⟩ := run_ev l hl
  have hr := rs_len l
  obtain ⟨K2, hK2⟩ := sort_ev (rs l) (by omega)
  have hs : (isort leD (rs l)).length = (rs l).length := isort_len _
  obtain ⟨K3, hK3⟩ := due_l0 (isort leD (rs l)) (by omega) now ((rs l).length : Int) (by omega) (isort leD (rs l)).length 0 [] (by omega) (Nat.le_refl _)
  refine ⟨K1 + K2 + K3, fun k hk => ?_⟩
  have h1 : job_running.f k l = some _ := hK1 k (by omega)
  have h2 : slices_SortStableFunc_Job__job_Due_1.f k (rs l) = some _ := hK2 k (by omega)
  have h3 := hK3 k (by omega)
  show job_Due.f k l now = _
  unfold job_Due.f
  rw [h1, Option.bind_some, h2, Option.bind_some]
  exact h3
end Go.Proofs.Ytkhfgflcanmefaa.Pure
end
section
set_option linter.unusedVariables false
set_option linter.unusedSimpArgs false
namespace Go.Proofs.Ytkhfgflcanmefaa.Pure
open Go Go.RowKit Go.Proofs.Ytkhfgflcanmefaa.PAll Go.Proofs.YtkhfgflcanmefaaW.PrintWords Go.Proofs.YtkhfgflcanmefaaW.PrintLast
def GoodP (t n l m : Int) : Prop := 0 ≤ t ∧ t ≤ 1099511627776 ∧ 1 ≤ l ∧ l ≤ 1048576 ∧ 0 ≤ n ∧ n ≤ 31 ∧ 1 ≤ m ∧ n + m ≤ 32
instance (t n l m : Int) : Decidable (GoodP t n l m) := by unfold GoodP; infer_instance
theorem within_eq (a b c : Int) : plane_within.f a b c = some (decide (b ≤ a ∧ a ≤ c)) := by
  unfold plane_within.f; by_cases h : a ≥ b
  · rw [if_pos h]; congr 1; exact decide_eq_decide.mpr ⟨fun x => ⟨h, x⟩, fun x => x.2⟩
  · rw [if_neg h]; congr 1; symm; exact decide_eq_false (fun x => h x.1)
theorem pick_ite (p : Prop) [Decidable p] (x y : Option Bool) : (if decide p = true then x else y) = if p then x else y := by by_cases h : p <;> simp [h]
theorem Good_eq (t n l m : Int) : plane_Good.f t n l m = some (decide (GoodP t n l m)) := by
  unfold plane_Good.f GoodP
  simp only [within_eq, Option.bind_some, pick_ite]
  by_cases h1 : 0 ≤ t ∧ t ≤ 1099511627776
  · rw [if_pos h1]
    by_cases h2 : 1 ≤ l ∧ l ≤ 1048576
    · rw [if_pos h2]
      by_cases h3 : 0 ≤ n ∧ n ≤ 31
      · rw [if_pos h3]; congr 1; apply decide_eq_decide.mpr
        unfold wrap64; omega
      · rw [if_neg h3]; congr 1; symm; apply decide_eq_false; omega
    · rw [if_neg h2]; congr 1; symm; apply decide_eq_false; omega
  · rw [if_neg h1]; congr 1; symm; apply decide_eq_false; omega
def MeetP (a b c d x y z t : Int) : Prop := GoodP a b c d ∧ GoodP x y z t ∧ a < x + z ∧ x < a + c ∧ b < y + t ∧ y < b + d
instance (a b c d x y z t : Int) : Decidable (MeetP a b c d x y z t) := by unfold MeetP; infer_instance
theorem Meets_eq (a b c d x y z t : Int) : plane_Meets.f a b c d x y z t = some (decide (MeetP a b c d x y z t)) := by
  unfold plane_Meets.f MeetP
  simp only [Good_eq, Option.bind_some, pick_ite]
  by_cases h1 : GoodP a b c d
  · rw [if_pos h1]
    by_cases h2 : GoodP x y z t
    · rw [if_pos h2]; congr 1; unfold meetB
      rw [← Bool.decide_and, ← Bool.decide_and, ← Bool.decide_and]
      apply decide_eq_decide.mpr
      constructor
      · intro h; refine ⟨h1, h2, ?_⟩; omega
      · intro h; omega
    · rw [if_neg h2]; congr 1; symm; apply decide_eq_false; exact fun h => h2 h.2.1
  · rw [if_neg h1]; congr 1; symm; apply decide_eq_false; exact fun h => h1 h.1
def bx (L : List S63) (i : Nat) : S63 := L.getD i z63
def gd (x : S63) : Prop := GoodP x.f0 x.f1 x.f2 x.f3
def mt (x y : S63) : Prop := MeetP x.f0 x.f1 x.f2 x.f3 y.f0 y.f1 y.f2 y.f3
theorem rd_nat (L : List S63) (i : Nat) : rd_T63 L (i : Int) = bx L i := by simp [rd_T63, bx]
theorem bx_take (L : List S63) (i j : Nat) (h : j < i) : bx (L.take i) j = bx L j := by
  unfold bx; simp [List.getD, List.getElem?_take, h]
def PlA (L : List S63) (i : Nat) : Prop := ∀ p, i ≤ p → p < L.length → gd (bx L p) ∧ ∀ q, q < p → ¬ mt (bx L p) (bx L q)
open Classical in
theorem apart_in (L : List S63) (i d : Nat) (hi : i + d = L.length) (hd : 0 < d) (hn : L.length ≤ 600)
    (ih : ∀ k, (d - 1) * 700 + 1 ≤ k → plane_Apart.l0 k L L (L.length : Int) ((i + 1 : Nat) : Int) = some (decide (PlA L (i + 1)))) :
    ∀ c j k, j + c = i → c + 1 + ((d - 1) * 700 + 1) ≤ k → plane_Apart.l1 k L L (L.length : Int) (i : Int) (L.take i) (i : Int) (j : Int) (bx L i).f0 (bx L i).f1 (bx L i).f2 (bx L i).f3 = some (decide ((∀ q, j ≤ q → q < i → ¬ mt (bx L i) (bx L q)) ∧ PlA L (i + 1))) := by
  intro c
  induction c with
  | zero =>
    intro j k hj hk
    obtain ⟨k, rfl⟩ : ∃ m, k = m + 1 := ⟨k - 1, by omega⟩
    simp only [plane_Apart.l1]
    rw [if_neg (by omega), show wrap64 ((i : Int) + 1) = ((i + 1 : Nat) : Int) by unfold wrap64; omega, ih k (by omega)]
    congr 1; apply decide_eq_decide.mpr
    exact ⟨fun h => ⟨fun q h1 h2 => by omega, h⟩, fun h => h.2⟩
  | succ c ihc =>
    intro j k hj hk
    obtain ⟨k, rfl⟩ : ∃ m, k = m + 1 := ⟨k - 1, by omega⟩
    simp only [plane_Apart.l1]
    rw [if_pos (by omega), if_pos (by omega), if_pos (by rw [List.length_take]; omega), rd_nat, bx_take L i j (by omega), Meets_eq]
    simp only [Option.bind_some]
    by_cases hm : mt (bx L i) (bx L j)
    · have hm' := hm
      unfold mt at hm'
      rw [if_pos (decide_eq_true hm')]
      congr 1; symm; apply decide_eq_false
      exact fun h => h.1 j (Nat.le_refl _) (by omega) hm
    · have hm' := hm
      unfold mt at hm'
      rw [if_neg (by simpa using hm'), show wrap64 ((j : Int) + 1) = ((j + 1 : Nat) : Int) by unfold wrap64; omega, ihc (j + 1) k (by omega) (by omega)]
      congr 1; apply decide_eq_decide.mpr
      constructor
      · rintro ⟨h1, h2⟩
        refine ⟨fun q a b => ?_, h2⟩
        by_cases e : q = j
        · subst e; exact hm
        · exact h1 q (by omega) b
      · rintro ⟨h1, h2⟩
        exact ⟨fun q a b => h1 q (by omega) b, h2⟩
open Classical in
set_option maxRecDepth 20000 in
theorem apart_out (L : List S63) (hn : L.length ≤ 600) : ∀ d i k, i + d = L.length → d * 700 + 1 ≤ k → plane_Apart.l0 k L L (L.length : Int) (i : Int) = some (decide (PlA L i)) := by
  intro d
  induction d with
  | zero =>
    intro i k hi hk
    obtain ⟨k, rfl⟩ : ∃ m, k = m + 1 := ⟨k - 1, by omega⟩
    simp only [plane_Apart.l0]
    rw [if_neg (by omega)]
    congr 1; symm; apply decide_eq_true
    intro p h1 h2; omega
  | succ d ih =>
    intro i k hi hk
    obtain ⟨k, rfl⟩ : ∃ m, k = m + 1 := ⟨k - 1, by omega⟩
    simp only [plane_Apart.l0]
    rw [if_pos (by omega), if_pos (by omega), if_pos (by omega), rd_nat, Good_eq]
    simp only [Option.bind_some]
    by_cases hg : gd (bx L i)
    · have hg' := hg
      unfold gd at hg'
      rw [if_pos (decide_eq_true hg'), if_pos (by omega)]
      have e1 : ((L.take (i : Int).toNat).length : Int) = (i : Int) := by rw [List.length_take]; omega
      rw [e1, show ((i : Int)).toNat = i from rfl, show ((0 : Int)) = ((0 : Nat) : Int) from rfl, apart_in L i (d + 1) hi (by omega) hn (fun k' hk' => ih (i + 1) k' (by omega) (by omega)) i 0 k (by omega) (by omega)]
      congr 1; apply decide_eq_decide.mpr
      constructor
      · rintro ⟨h1, h2⟩ p a b
        by_cases e : p = i
        · subst e; exact ⟨hg, fun q hq => h1 q (by omega) hq⟩
        · exact h2 p (by omega) b
      · intro h
        exact ⟨fun q _ hq => (h i (Nat.le_refl _) (by omega)).2 q hq, fun p a b => h p (by omega) b⟩
    · have hg' := hg
      unfold gd at hg'
      rw [if_neg (by simpa using hg')]
      congr 1; symm; apply decide_eq_false
      exact fun h => hg (h i (Nat.le_refl _) (by omega)).1
open Classical in
theorem Apart_eq (L : List S63) (hn : L.length ≤ 600) (k : Nat) (hk : L.length * 700 + 1 ≤ k) : plane_Apart.f k L = some (decide (PlA L 0)) := apart_out L hn L.length 0 k (by omega) (by omega)
theorem and_one (x : Int) : Go.bits .and .i64 x 1 = 0 ∨ Go.bits .and .i64 x 1 = 1 := by
  have h : (BitVec.ofInt 64 x &&& BitVec.ofInt 64 1).toNat = (BitVec.ofInt 64 x).toNat % 2 := by
    rw [BitVec.toNat_and]; exact Nat.and_one_is_mod _
  have e : Go.bits .and .i64 x 1 = IntKind.i64.wrap (((BitVec.ofInt 64 x).toNat % 2 : Nat) : Int) := by
    rw [← h]; rfl
  rw [e, IntKind.wrap_i64]
  omega
theorem bit01 (m n : Int) : bitOf m n = 0 ∨ bitOf m n = 1 := and_one _
theorem u64_small (n : Int) (h0 : 0 ≤ n) (h1 : n < 64) : IntKind.u64.wrap n = n := by
  simp [IntKind.wrap, IntKind.bits, IntKind.signed]; omega
theorem up_spec (m t : Int) : ∀ d n k : Nat, n + d = 32 → d < k → ∃ p : Nat, plane_Rows.up k t m (n : Int) = some (p : Int) ∧ n ≤ p ∧ p ≤ 32 ∧ (∀ i : Nat, n ≤ i → i < p → bitOf m i = t) ∧ (p < 32 → bitOf m p ≠ t) := by
  intro d
  induction d with
  | zero =>
    intro n k hn hk
    obtain ⟨k, rfl⟩ : ∃ j, k = j + 1 := ⟨k - 1, by omega⟩
    simp only [plane_Rows.up]
    rw [if_neg (by omega)]
    exact ⟨n, rfl, Nat.le_refl _, by omega, fun i a b => by omega, fun h => by omega⟩
  | succ d ih =>
    intro n k hn hk
    obtain ⟨k, rfl⟩ : ∃ j, k = j + 1 := ⟨k - 1, by omega⟩
    simp only [plane_Rows.up]
    rw [if_pos (by omega)]
    by_cases h : bitOf m n = t
    · rw [if_pos h]
      obtain ⟨p, e, h1, h2, h3, h4⟩ := ih (n + 1) k (by omega) (by omega)
      refine ⟨p, by rw [← e]; rfl, by omega, h2, ?_, h4⟩
      intro i a b
      by_cases hi : i = n
      · subst hi; exact h
      · exact h3 i (by omega) b
    · rw [if_neg h]
      exact ⟨n, rfl, Nat.le_refl _, by omega, fun i a b => by omega, fun _ => h⟩
inductive Runs (m : Int) : Nat → List (Nat × Nat) → Prop
  | nil (n : Nat) (h : ∀ i : Nat, n ≤ i → i < 32 → bitOf m i = 0) : Runs m n []
  | cons (n p q : Nat) (L : List (Nat × Nat)) (h1 : n ≤ p) (h2 : p < q) (h3 : q ≤ 32) (h4 : ∀ i : Nat, n ≤ i → i < p → bitOf m i = 0) (h5 : ∀ i : Nat, p ≤ i → i < q → bitOf m i = 1) (h6 : q < 32 → bitOf m q = 0) (h7 : Runs m q L) : Runs m n ((p, q) :: L)
def runBox (a b : Int) (r : Nat × Nat) : S63 := ⟨a, (r.1 : Int), b, (r.2 : Int) - (r.1 : Int)⟩
theorem rows_runs (a b m : Int) : ∀ k n : Nat, ∀ out : List S63, n ≤ 32 → 33 - n ≤ k → ∃ L, Runs m n L ∧ plane_Rows.l k a b m out (n : Int) = some (out ++ L.map (runBox a b)) := by
  intro k
  induction k with
  | zero => intro n out h1 h2; omega
  | succ k ih =>
    intro n out h1 h2
    obtain ⟨p, e, p1, p2, p3, p4⟩ := up_spec m 0 (32 - n) n 40 (by omega) (by omega)
    simp only [plane_Rows.l]
    rw [show plane_Rows.up 40 0 m (n : Int) = some (p : Int) from e, Option.bind_some]
    by_cases hp : p = 32
    · subst hp
      rw [if_pos (show ((32 : Nat) : Int) = 32 from rfl)]
      exact ⟨[], .nil n p3, by simp⟩
    · rw [if_neg (by omega)]
      have hp1 : bitOf m p = 1 := (bit01 m p).resolve_left (p4 (by omega))
      obtain ⟨q, e2, q1, q2, q3, q4⟩ := up_spec m 1 (32 - p) p 40 (by omega) (by omega)
      rw [show plane_Rows.up 40 1 m (p : Int) = some (q : Int) from e2, Option.bind_some]
      have hqp : p < q := by
        by_cases hq : q = p
        · exact absurd hp1 (by have := q4 (by omega); rw [hq] at this; exact this)
        · omega
      obtain ⟨L, l1, l2⟩ := ih q (out ++ [(⟨a, p, b, (q : Int) - p⟩ : S63)]) q2 (by omega)
      refine ⟨(p, q) :: L, .cons n p q L p1 hqp q2 p3 q3 (fun h => (bit01 m q).resolve_right (q4 h)) l1, ?_⟩
      rw [l2, List.map_cons, List.append_assoc]; rfl
theorem rowsF (a b m : Int) (h : GoodP a 0 b 1) : ∃ L, Runs m 0 L ∧ plane_Rows.f a b m = some (L.map (runBox a b)) := by
  obtain ⟨L, l1, l2⟩ := rows_runs a b m 40 0 [] (by omega) (by omega)
  refine ⟨L, l1, ?_⟩
  unfold plane_Rows.f
  simp only [Good_eq, Option.bind_some]
  rw [if_pos (decide_eq_true h)]
  exact l2.trans (by simp)
theorem i64_keep (n : Int) (h0 : 0 ≤ n) (h1 : n < 2 ^ 62) : IntKind.i64.wrap n = n := by rw [IntKind.wrap_i64]; omega
theorem bit_nat (M i : Nat) (hM : M < 2 ^ 62) (hi : i < 32) : bitOf (M : Int) (i : Int) = if M.testBit i then 1 else 0 := by
  unfold bitOf
  have e : shr .i64 (M : Int) (i : Int) = ((M / 2 ^ i : Nat) : Int) := by
    have : shr .i64 (M : Int) (i : Int) = (M : Int) / 2 ^ i := (shr_small rfl (by have : (IntKind.i64.bits : Int) = 64 := rfl; omega)).symm
    rw [this]; simp
  have hl : M / 2 ^ i < 2 ^ 62 := Nat.lt_of_le_of_lt (Nat.div_le_self _ _) hM
  rw [e, show (1 : Int) = ((1 : Nat) : Int) from rfl, (bits_nat .i64 62 (by decide) i64_keep (M / 2 ^ i) 1 hl (by decide)).1, Nat.and_one_is_mod, Nat.testBit_eq_decide_div_mod_eq]
  have := Nat.mod_two_eq_zero_or_one (M / 2 ^ i)
  rcases this with h | h <;> rw [h] <;> simp
def width : List (Nat × Nat) → Nat
  | [] => 0
  | r :: L => (r.2 - r.1) + width L
def ones (m : Int) : Nat → Nat → Int
  | 0, _ => 0
  | d + 1, n => bitOf m (n : Int) + ones m d (n + 1)
theorem ones_split (m : Int) : ∀ c d n : Nat, ones m (c + d) n = ones m c n + ones m d (n + c) := by
  intro c
  induction c with
  | zero => intro d n; simp [ones]
  | succ c ih => intro d n; rw [show c + 1 + d = (c + d) + 1 by omega]; simp only [ones]; rw [ih d (n + 1), show n + 1 + c = n + (c + 1) by omega]; omega
theorem ones_const (m t : Int) : ∀ d n : Nat, (∀ i : Nat, n ≤ i → i < n + d → bitOf m i = t) → ones m d n = d * t := by
  intro d
  induction d with
  | zero => intro n _; simp [ones]
  | succ d ih => intro n h; simp only [ones]; rw [h n (by omega) (by omega), ih (n + 1) (fun i x y => h i (by omega) (by omega))]; rw [show ((d + 1 : Nat) : Int) = (d : Int) + 1 by omega, Int.add_mul]; omega
theorem runs_mem (m : Int) (n : Nat) (L : List (Nat × Nat)) (h : Runs m n L) : ∀ r ∈ L, n ≤ r.1 ∧ r.1 < r.2 ∧ r.2 ≤ 32 ∧ ∀ i : Nat, r.1 ≤ i → i < r.2 → bitOf m i = 1 := by
  induction h with
  | nil n h => intro r hr; cases hr
  | cons n p q L h1 h2 h3 h4 h5 h6 h7 ih =>
    intro r hr
    rcases List.mem_cons.1 hr with e | e
    · subst e; exact ⟨h1, h2, h3, h5⟩
    · obtain ⟨a, b, c, d⟩ := ih r e; exact ⟨by omega, b, c, d⟩
theorem runs_cover (m : Int) (n : Nat) (L : List (Nat × Nat)) (h : Runs m n L) : ∀ j : Nat, n ≤ j → j < 32 → bitOf m j = 1 → ∃ r ∈ L, r.1 ≤ j ∧ j < r.2 := by
  induction h with
  | nil n h => intro j h1 h2 h3; have := h j h1 h2; omega
  | cons n p q L h1 h2 h3 h4 h5 h6 h7 ih =>
    intro j a b c
    by_cases e : j < p
    · have := h4 j a e; omega
    · by_cases e2 : j < q
      · exact ⟨(p, q), List.mem_cons_self .., by show p ≤ j; omega, e2⟩
      · obtain ⟨r, r1, r2⟩ := ih j (by omega) b c
        exact ⟨r, List.mem_cons_of_mem _ r1, r2⟩
theorem runs_order (m : Int) (n : Nat) (L : List (Nat × Nat)) (h : Runs m n L) : ∀ i j : Nat, i < j → j < L.length → (L.getD i (0, 0)).2 ≤ (L.getD j (0, 0)).1 := by
  induction h with
  | nil n h => intro i j _ hj; simp at hj
  | cons n p q L h1 h2 h3 h4 h5 h6 h7 ih =>
    intro i j hij hj
    obtain ⟨j, rfl⟩ : ∃ t, j = t + 1 := ⟨j - 1, by omega⟩
    have hj' : j < L.length := by simpa using hj
    cases i with
    | zero =>
      have hm : L.getD j (0, 0) ∈ L := by
        rw [List.getD_eq_getElem?_getD, List.getElem?_eq_getElem hj']; exact List.getElem_mem hj'
      have := (runs_mem m q L h7 _ hm).1
      simpa using this
    | succ i => simpa using ih i j (by omega) hj'
theorem runs_len (m : Int) (n : Nat) (L : List (Nat × Nat)) (h : Runs m n L) : n ≤ 32 → L.length + n ≤ 32 := by
  induction h with
  | nil n h => intro hn; simp; omega
  | cons n p q L h1 h2 h3 h4 h5 h6 h7 ih => intro hn; have := ih h3; simp; omega
theorem ones_bd (m : Int) : ∀ d n : Nat, 0 ≤ ones m d n ∧ ones m d n ≤ d := by
  intro d
  induction d with
  | zero => intro n; simp [ones]
  | succ d ih => intro n; have := ih (n + 1); have := bit01 m (n : Int); simp only [ones]; omega
theorem runs_apart (a b m : Int) (hg : GoodP a 0 b 1) (L : List (Nat × Nat)) (h : Runs m 0 L) : PlA (L.map (runBox a b)) 0 := by
  unfold GoodP at hg
  have hbx : ∀ i, i < L.length → bx (L.map (runBox a b)) i = runBox a b (L.getD i (0, 0)) := by
    intro i hi; simp [bx, List.getD, List.getElem?_eq_getElem hi]
  have hmem : ∀ i, i < L.length → L.getD i (0, 0) ∈ L := by
    intro i hi; rw [List.getD_eq_getElem?_getD, List.getElem?_eq_getElem hi]; exact List.getElem_mem hi
  intro p _ hp
  rw [List.length_map] at hp
  obtain ⟨_, p1, p2, _⟩ := runs_mem _ _ _ h _ (hmem p hp)
  rw [hbx p hp]
  refine ⟨by unfold gd runBox GoodP; simp only []; omega, fun q hq hm => ?_⟩
  rw [hbx q (by omega)] at hm
  have := runs_order _ _ _ h q p hq hp
  unfold mt runBox MeetP at hm
  simp only [] at hm
  omega

def masks (l : List S32) (a : Int) : Int := l.foldl (fun a x => Go.bits .or .i64 a x.f9) a
theorem mask_l0 (r : List S32) (hl : r.length ≤ 1000) : ∀ (d i : Nat) (a : Int), i + d = r.length → Ev (fun k => job_Mask.l0 k a r (r.length : Int) (i : Int)) (masks (r.drop i) a)
  | 0, i, a, h => by
    refine ⟨1, fun k hk => ?_⟩
    obtain ⟨k, rfl⟩ : ∃ k', k = k' + 1 := ⟨k - 1, by omega⟩
    show job_Mask.l0 (k + 1) a r (r.length : Int) (i : Int) = _
    rw [job_Mask.l0.eq_2, if_neg (by omega), List.drop_eq_nil_of_le (by omega)]
    rfl
  | d + 1, i, a, h => by
    have hi : i < r.length := by omega
    have ew : wrap64 ((i : Int) + 1) = ((i + 1 : Nat) : Int) := by unfold wrap64; omega
    obtain ⟨K, hK⟩ := mask_l0 r hl d (i + 1) (Go.bits .or .i64 a r[i].f9) (by omega)
    refine ⟨K + 1, fun k hk => ?_⟩
    obtain ⟨k, rfl⟩ : ∃ k', k = k' + 1 := ⟨k - 1, by omega⟩
    have hk2 : job_Mask.l0 k (Go.bits .or .i64 a r[i].f9) r (r.length : Int) ((i + 1 : Nat) : Int) = some _ := hK k (by omega)
    show job_Mask.l0 (k + 1) a r (r.length : Int) (i : Int) = _
    rw [job_Mask.l0.eq_2, if_pos (by omega), if_pos (by omega), if_pos (by omega), rdJ hi, ew, hk2, List.drop_eq_getElem_cons hi]
    rfl
theorem mask_ev (l : List S32) (hl : l.length ≤ 1000) : Ev (fun k => job_Mask.f k l) (masks (rs l) 0) := by
  obtain ⟨K1, hK1⟩ := run_ev l hl
  have hr := rs_len l
  obtain ⟨K2, hK2⟩ := mask_l0 (rs l) (by omega) (rs l).length 0 0 (by omega)
  refine ⟨K1 + K2, fun k hk => ?_⟩
  have h1 : job_running.f k l = some _ := hK1 k (by omega)
  have h2 := hK2 k (by omega)
  show job_Mask.f k l = _
  unfold job_Mask.f
  rw [h1, Option.bind_some]
  exact h2
def rowsO (x : S32) : List S63 := (plane_Rows.f x.f8 x.f3 x.f9).getD []
theorem rows_x (x : S32) : plane_Rows.f x.f8 x.f3 x.f9 = some (rowsO x) ∧ (rowsO x).length ≤ 40 := by
  unfold rowsO
  by_cases h : GoodP x.f8 0 x.f3 1
  · obtain ⟨L, h1, h2⟩ := rowsF x.f8 x.f3 x.f9 h
    have := runs_len _ _ _ h1 (by omega)
    rw [h2]
    exact ⟨rfl, by simp; omega⟩
  · have e : plane_Rows.f x.f8 x.f3 x.f9 = some [] := by
      unfold plane_Rows.f
      rw [Good_eq, Option.bind_some, if_neg (by simpa using h)]
    rw [e]
    exact ⟨rfl, by simp⟩
theorem boxes_l0 (r : List S32) (hl : r.length ≤ 1000) : ∀ (d i : Nat) (acc : List S63), i + d = r.length → acc.length ≤ 40 * i → Ev (fun k => job_Boxes.l0 k acc r (r.length : Int) (i : Int)) (acc ++ (r.drop i).flatMap rowsO)
  | 0, i, acc, h, ha => by
    refine ⟨1, fun k hk => ?_⟩
    obtain ⟨k, rfl⟩ : ∃ k', k = k' + 1 := ⟨k - 1, by omega⟩
    show job_Boxes.l0 (k + 1) acc r (r.length : Int) (i : Int) = _
    rw [job_Boxes.l0.eq_2, if_neg (by omega), List.drop_eq_nil_of_le (by omega)]
    simp [slices_Clip_Box.f]
  | d + 1, i, acc, h, ha => by
    have hi : i < r.length := by omega
    have ew : wrap64 ((i : Int) + 1) = ((i + 1 : Nat) : Int) := by unfold wrap64; omega
    obtain ⟨q1, q2⟩ := rows_x r[i]
    obtain ⟨K, hK⟩ := boxes_l0 r hl d (i + 1) (acc ++ rowsO r[i]) (by omega) (by rw [List.length_append]; omega)
    refine ⟨K + 1, fun k hk => ?_⟩
    obtain ⟨k, rfl⟩ : ∃ k', k = k' + 1 := ⟨k - 1, by omega⟩
    have hk2 : job_Boxes.l0 k (acc ++ rowsO r[i]) r (r.length : Int) ((i + 1 : Nat) : Int) = some _ := hK k (by omega)
    show job_Boxes.l0 (k + 1) acc r (r.length : Int) (i : Int) = _
    rw [job_Boxes.l0.eq_2, if_pos (by omega), if_pos (by omega), if_pos (by omega), rdJ hi, q1, Option.bind_some, if_pos (by omega), ew, hk2, List.drop_eq_getElem_cons hi, List.flatMap_cons, List.append_assoc]
theorem boxes_ev (l : List S32) (hl : l.length ≤ 1000) : Ev (fun k => job_Boxes.f k l) ((rs l).flatMap rowsO) := by
  obtain ⟨K1, hK1⟩ := run_ev l hl
  have hr := rs_len l
  obtain ⟨K2, hK2⟩ := boxes_l0 (rs l) (by omega) (rs l).length 0 [] (by omega) (Nat.zero_le _)
  refine ⟨K1 + K2, fun k hk => ?_⟩
  have h1 : job_running.f k l = some _ := hK1 k (by omega)
  have h2 := hK2 k (by omega)
  show job_Boxes.f k l = _
  unfold job_Boxes.f
  rw [h1, Option.bind_some]
  exact h2

theorem in_eqJ (a b c : Int) : job_in.f a b c = some (decide (b ≤ a ∧ a ≤ c)) := by
  unfold job_in.f; by_cases h : a ≥ b
  · rw [if_pos h]; congr 1; exact decide_eq_decide.mpr ⟨fun x => ⟨h, x⟩, fun x => x.2⟩
  · rw [if_neg h]; congr 1; symm; exact decide_eq_false (fun x => h x.1)
theorem draws_some (l : List S80) (hl : l.length ≤ 9223372036854775807) : ∀ (d i k : Nat) (a : Int), i + d = l.length → d + 1 ≤ k → ∃ b, job_draws.l0 k a l (l.length : Int) (i : Int) = some b
  | 0, i, k, a, h, hk => by
    obtain ⟨k, rfl⟩ : ∃ m, k = m + 1 := ⟨k - 1, by omega⟩
    rw [job_draws.l0.eq_2, if_neg (by omega)]
    exact ⟨_, rfl⟩
  | d + 1, i, k, a, h, hk => by
    obtain ⟨k, rfl⟩ : ∃ m, k = m + 1 := ⟨k - 1, by omega⟩
    have ew : wrap64 ((i : Int) + 1) = ((i + 1 : Nat) : Int) := by unfold wrap64; omega
    rw [job_draws.l0.eq_2, if_pos (by omega), if_pos (by omega), if_pos (by omega), in_eqJ, Option.bind_some]
    by_cases c : 0 ≤ (rd_T80 l (i : Int)).f0 ∧ (rd_T80 l (i : Int)).f0 ≤ 15
    · rw [if_pos (decide_eq_true c), in_eqJ, Option.bind_some]
      by_cases c2 : 1 ≤ (rd_T80 l (i : Int)).f1 ∧ (rd_T80 l (i : Int)).f1 ≤ 1152921504606846976
      · rw [if_pos (decide_eq_true c2), if_pos c.1]
        split
        · exact ⟨_, rfl⟩
        · rw [ew]; exact draws_some l hl d (i + 1) k _ (by omega) (by omega)
      · rw [if_neg (by simpa using c2)]; exact ⟨_, rfl⟩
    · rw [if_neg (by simpa using c)]; exact ⟨_, rfl⟩
def OkR (a2 a3 a8 a9 : Int) : Prop := 1 ≤ a3 ∧ a3 ≤ 1048576 ∧ 0 ≤ a8 ∧ a8 ≤ 1099511627776 ∧ 0 ≤ a9 ∧ a9 ≤ 4294967295 ∧ pop4 a9 = a2
theorem goodR (a0 a1 a2 a3 a4 a5 a6 a7 a8 a9 a10 : Int) (l : List S80) (hl : l.length ≤ 9223372036854775807) : ∃ b, job_GoodR.f (l.length + 20) a0 a1 a2 a3 a4 a5 a6 a7 a8 a9 a10 l = some b ∧ (b = true → a7 = 3 → OkR a2 a3 a8 a9) := by
  obtain ⟨m, hm, hm2⟩ : ∃ m, l.length + 20 = m + 2 ∧ l.length + 1 ≤ m := ⟨l.length + 18, by omega, by omega⟩
  obtain ⟨dr, hdr⟩ : ∃ b, job_draws.f m l = some b := draws_some l hl l.length 0 m 0 (by omega) hm2
  have jt : ∀ x, x = true → ∃ b, job_GoodR.j0 (m + 2) x a0 a1 a2 a3 a4 a5 a6 a7 a8 a9 a10 l = some b ∧ (b = true → a7 = 3 → OkR a2 a3 a8 a9) := by
    intro x hx
    rw [job_GoodR.j0.eq_2, if_pos hx]
    exact ⟨false, rfl, fun h => absurd h (by decide)⟩
  have of1 : ∀ X : Option Bool, a7 ≠ 3 → (∃ b, X = some b) → ∃ b, X = some b ∧ (b = true → a7 = 3 → OkR a2 a3 a8 a9) := fun X h ⟨b, hb⟩ => ⟨b, hb, fun _ h3 => absurd h3 h⟩
  have js : ∀ x y, x = a7 → (y = true → a7 = 1 ∨ a7 = 2) → 1 ≤ a3 ∧ a3 ≤ 1048576 → ∃ b, job_GoodR.j1 (m + 1) x y a0 a1 a2 a3 a4 a5 a6 a7 a8 a9 a10 l = some b ∧ (b = true → a7 = 3 → OkR a2 a3 a8 a9) := by
    intro x y hx7 hy c3
    rw [job_GoodR.j1.eq_2]
    by_cases h : y = true
    · rw [if_pos h]
      have := hy h
      refine of1 _ (by omega) ?_
      repeat' split
      all_goals exact ⟨_, rfl⟩
    · rw [if_neg h]
      have fs : ∃ b, some false = some b ∧ (b = true → a7 = 3 → OkR a2 a3 a8 a9) := ⟨false, rfl, fun h => absurd h (by decide)⟩
      by_cases h3 : x = 3
      · rw [if_pos h3, in_eqJ, Option.bind_some]
        by_cases c8 : 0 ≤ a8 ∧ a8 ≤ 1099511627776
        · rw [if_pos (decide_eq_true c8), in_eqJ, Option.bind_some]
          by_cases c9 : 0 ≤ a9 ∧ a9 ≤ 4294967295
          · have e9 : a9 % 4294967296 = a9 := by omega
            have ec : pool_Count.f a9 = some (pop4 a9) := by
              unfold pool_Count.f bits_OnesCount32.f
              rw [e9, if_pos (by omega), Option.bind_some]
            rw [if_pos (decide_eq_true c9), ec, Option.bind_some]
            by_cases cp : pop4 a9 = a2
            · rw [if_pos cp]
              have ok : OkR a2 a3 a8 a9 := ⟨c3.1, c3.2, c8.1, c8.2, c9.1, c9.2, cp⟩
              by_cases c10 : a10 = 0
              · rw [if_pos c10, hdr, Option.bind_some]; exact ⟨_, rfl, fun _ _ => ok⟩
              · rw [if_neg c10]; exact fs
            · rw [if_neg cp]; exact fs
          · rw [if_neg (by simpa using c9)]; exact fs
        · rw [if_neg (by simpa using c8)]; exact fs
      · rw [if_neg h3]
        by_cases h4 : x = 4
        · rw [if_pos h4, in_eqJ, Option.bind_some]
          by_cases h7 : a7 = 3
          · exact absurd h4 (by omega)
          · refine of1 _ h7 ?_
            simp only [in_eqJ, Option.bind_some, hdr]
            repeat' split
            all_goals exact ⟨_, rfl⟩
        · rw [if_neg h4]; exact fs
  rw [hm]
  unfold job_GoodR.f
  by_cases c0 : a0 < 1
  · rw [if_pos c0]; exact jt _ rfl
  rw [if_neg c0, in_eqJ, Option.bind_some]
  by_cases c1 : 0 ≤ a1 ∧ a1 ≤ 7
  case neg => rw [if_neg (by simpa using c1)]; exact jt _ rfl
  rw [if_pos (decide_eq_true c1), in_eqJ, Option.bind_some]
  by_cases c2 : 1 ≤ a2 ∧ a2 ≤ 32
  case neg => rw [if_neg (by simpa using c2)]; exact jt _ rfl
  rw [if_pos (decide_eq_true c2), in_eqJ, Option.bind_some]
  by_cases c3 : 1 ≤ a3 ∧ a3 ≤ 1048576
  case neg => rw [if_neg (by simpa using c3)]; exact jt _ rfl
  rw [if_pos (decide_eq_true c3), in_eqJ, Option.bind_some]
  by_cases c4 : 0 ≤ a4 ∧ a4 ≤ 7
  case neg => rw [if_neg (by simpa using c4)]; exact jt _ rfl
  rw [if_pos (decide_eq_true c4), in_eqJ, Option.bind_some]
  by_cases c5 : 0 ≤ a5 ∧ a5 ≤ 1048576
  case neg => rw [if_neg (by simpa using c5)]; exact jt _ rfl
  rw [if_pos (decide_eq_true c5), in_eqJ, Option.bind_some]
  by_cases c6 : 0 ≤ a6 ∧ a6 ≤ 1099511627776
  case neg => rw [decide_eq_false c6]; exact jt _ rfl
  rw [decide_eq_true c6, job_GoodR.j0.eq_2, if_neg (show ¬ ((!true) = true) by decide)]
  by_cases h1 : a7 = 1
  · rw [if_pos h1]; exact js _ _ rfl (fun _ => .inl h1) c3
  · rw [if_neg h1]; exact js _ _ rfl (fun h => .inr (by simpa using h)) c3
theorem pop8_ones : ∀ x : Fin 256, Go.Lib.pop8 ((x.val : Nat) : Int) = (if x.val.testBit 0 then 1 else 0) + ((if x.val.testBit 1 then 1 else 0) + ((if x.val.testBit 2 then 1 else 0) + ((if x.val.testBit 3 then 1 else 0) + ((if x.val.testBit 4 then 1 else 0) + ((if x.val.testBit 5 then 1 else 0) + ((if x.val.testBit 6 then 1 else 0) + ((if x.val.testBit 7 then 1 else 0) + 0))))))) := by decide +kernel
theorem byte_ones (M : Nat) (hM : M < 2 ^ 32) (n : Nat) (hn : n + 8 ≤ 32) : ones (M : Int) 8 n = Go.Lib.pop8 ((M / 2 ^ n % 256 : Nat) : Int) := by
  have h := pop8_ones ⟨M / 2 ^ n % 256, Nat.mod_lt _ (by decide)⟩
  rw [h]
  have hb : ∀ j, j < 8 → (M / 2 ^ n % 256).testBit j = M.testBit (n + j) := by
    intro j hj
    rw [show 256 = 2 ^ 8 from rfl, Nat.testBit_mod_two_pow, Nat.testBit_div_two_pow, decide_eq_true hj, Bool.true_and, Nat.add_comm]
  have hM2 : M < 2 ^ 62 := Nat.lt_trans hM (by decide)
  simp only [hb 0 (by omega), hb 1 (by omega), hb 2 (by omega), hb 3 (by omega), hb 4 (by omega), hb 5 (by omega), hb 6 (by omega), hb 7 (by omega), ones]
  rw [bit_nat M n hM2 (by omega), bit_nat M (n + 1) hM2 (by omega), bit_nat M (n + 1 + 1) hM2 (by omega), bit_nat M (n + 1 + 1 + 1) hM2 (by omega), bit_nat M (n + 1 + 1 + 1 + 1) hM2 (by omega), bit_nat M (n + 1 + 1 + 1 + 1 + 1) hM2 (by omega), bit_nat M (n + 1 + 1 + 1 + 1 + 1 + 1) hM2 (by omega), bit_nat M (n + 1 + 1 + 1 + 1 + 1 + 1 + 1) hM2 (by omega)]
  simp only [Nat.add_assoc, Nat.reduceAdd, Nat.add_zero]
theorem pop4_ones (M : Nat) (hM : M < 2 ^ 32) : pop4 (M : Int) = ones (M : Int) 32 0 := by
  rw [show (32 : Nat) = 8 + (8 + (8 + 8)) from rfl, ones_split, ones_split, ones_split, byte_ones M hM 0 (by omega), byte_ones M hM (0 + 8) (by omega), byte_ones M hM (0 + 8 + 8) (by omega), byte_ones M hM (0 + 8 + 8 + 8) (by omega)]
  unfold pop4
  have e1 : (M : Int) / 16777216 = ((M / 2 ^ (0 + 8 + 8 + 8) % 256 : Nat) : Int) := by omega
  have e2 : (M : Int) / 65536 % 256 = ((M / 2 ^ (0 + 8 + 8) % 256 : Nat) : Int) := by omega
  have e3 : (M : Int) / 256 % 256 = ((M / 2 ^ (0 + 8) % 256 : Nat) : Int) := by omega
  have e4 : (M : Int) % 256 = ((M / 2 ^ 0 % 256 : Nat) : Int) := by omega
  rw [e1, e2, e3, e4]
  omega
theorem or_bit (A B : Nat) (hA : A < 2 ^ 32) (hB : B < 2 ^ 32) (n : Nat) (hn : n < 32) : bitOf ((A ||| B : Nat) : Int) n = if bitOf A n = 1 ∨ bitOf B n = 1 then 1 else 0 := by
  have hO : A ||| B < 2 ^ 32 := Nat.or_lt_two_pow hA hB
  rw [bit_nat _ n (Nat.lt_trans hO (by decide)) hn, bit_nat A n (Nat.lt_trans hA (by decide)) hn, bit_nat B n (Nat.lt_trans hB (by decide)) hn, Nat.testBit_or]
  cases A.testBit n <;> cases B.testBit n <;> decide
theorem or_ones (A B : Nat) (hA : A < 2 ^ 32) (hB : B < 2 ^ 32) : ∀ d n : Nat, n + d ≤ 32 → ones ((A ||| B : Nat) : Int) d n ≤ ones A d n + ones B d n ∧ (ones ((A ||| B : Nat) : Int) d n = ones A d n + ones B d n ↔ ∀ j : Nat, n ≤ j → j < n + d → ¬ (bitOf A j = 1 ∧ bitOf B j = 1))
  | 0, n, h => ⟨by simp [ones], by simp only [ones]; exact ⟨fun _ j h1 h2 => by omega, fun _ => rfl⟩⟩
  | d + 1, n, h => by
    obtain ⟨i1, i2⟩ := or_ones A B hA hB d (n + 1) (by omega)
    have hb := or_bit A B hA hB n (by omega)
    have ba := bit01 A n
    have bb := bit01 B n
    simp only [ones]
    generalize ones ((A ||| B : Nat) : Int) d (n + 1) = X at *
    generalize ones (A : Int) d (n + 1) = Y at *
    generalize ones (B : Int) d (n + 1) = Z at *
    have key : bitOf ((A ||| B : Nat) : Int) n ≤ bitOf A n + bitOf B n ∧ (bitOf ((A ||| B : Nat) : Int) n = bitOf A n + bitOf B n ↔ ¬ (bitOf A n = 1 ∧ bitOf B n = 1)) := by
      rw [hb]
      rcases ba with ba | ba <;> rcases bb with bb | bb <;> rw [ba, bb] <;> decide
    obtain ⟨k1, k2⟩ := key
    refine ⟨by omega, ?_⟩
    constructor
    · intro e j j1 j2
      have e1 : bitOf ((A ||| B : Nat) : Int) n = bitOf A n + bitOf B n := by omega
      have e2 : X = Y + Z := by omega
      by_cases c : j = n
      · subst c; exact k2.mp e1
      · exact i2.mp e2 j (by omega) (by omega)
    · intro e
      have e1 := k2.mpr (e n (Nat.le_refl _) (by omega))
      have e2 := i2.mpr (fun j j1 j2 => e j (by omega) (by omega))
      omega
def okA (now : Int) (x : S32) : Prop := x.f7 = 3 ∧ OkR x.f2 x.f3 x.f8 x.f9 ∧ x.f8 ≤ now ∧ now < x.f8 + x.f3
def ap (a b : S32) : Prop := ∀ j : Nat, j < 32 → ¬ (bitOf a.f9 j = 1 ∧ bitOf b.f9 j = 1)
structure INV (now : Int) (x5 : List S32) (x6 x7 : Int) : Prop where
  ok : ∀ x ∈ x5, okA now x
  msk : masks x5 0 = x6
  m0 : ∃ M : Nat, x6 = M ∧ M < 2 ^ 32
  bit : ∀ j : Nat, j < 32 → (bitOf x6 j = 1 ↔ ∃ x ∈ x5, bitOf x.f9 j = 1)
  s0 : 0 ≤ x7
  sm : x7 ≤ 32 * (x5.length : Int)
  le : ones x6 32 0 ≤ x7
  eq : ones x6 32 0 = x7 ↔ x5.Pairwise ap
theorem INV.nil (now : Int) : INV now [] 0 0 := by
  have o0 : ones 0 32 0 = 0 := by rw [ones_const 0 0 32 0 (fun i _ h => by have := bit_nat 0 i (by decide) (by omega); rw [show ((0 : Nat) : Int) = 0 from rfl] at this; rw [this]; simp)]; rfl
  refine ⟨by simp, rfl, ⟨0, rfl, by decide⟩, fun j hj => ?_, Int.le_refl _, by simp, by omega, ?_⟩
  · have := bit_nat 0 j (by decide) hj
    rw [show ((0 : Nat) : Int) = 0 from rfl] at this
    rw [this]; simp
  · simp [o0]
theorem INV.snoc {now : Int} {x5 : List S32} {x6 x7 : Int} (h : INV now x5 x6 x7) (hl : x5.length ≤ 16) (x : S32) (hx : okA now x) : INV now (x5 ++ [x]) (Go.bits .or .i64 x6 x.f9) (wrap64 (x7 + x.f2)) := by
  obtain ⟨M, hM, hM2⟩ := h.m0
  subst hM
  obtain ⟨_, ⟨_, _, _, _, q0, q1, q2⟩, _, _⟩ := id hx
  obtain ⟨m, hm⟩ := Int.eq_ofNat_of_zero_le q0
  have hm2 : m < 2 ^ 32 := by omega
  have e1 : Go.bits .or .i64 (M : Int) x.f9 = ((M ||| m : Nat) : Int) := by rw [hm]; exact (bits_nat .i64 62 (by decide) i64_keep M m (Nat.lt_trans hM2 (by decide)) (Nat.lt_trans hm2 (by decide))).2
  have e2 : ones (m : Int) 32 0 = x.f2 := by rw [← q2, hm]; exact (pop4_ones m hm2).symm
  have bd := ones_bd (m : Int) 32 0
  have := h.s0
  have := h.sm
  have e3 : wrap64 (x7 + x.f2) = x7 + x.f2 := by unfold wrap64; omega
  obtain ⟨o1, o2⟩ := or_ones M m hM2 hm2 32 0 (by omega)
  have hle := h.le
  have hp : (x5 ++ [x]).Pairwise ap ↔ x5.Pairwise ap ∧ ∀ a ∈ x5, ap a x := by
    rw [List.pairwise_append]; simp
  have hcm : (∀ j : Nat, 0 ≤ j → j < 0 + 32 → ¬ (bitOf (M : Int) j = 1 ∧ bitOf (m : Int) j = 1)) ↔ ∀ a ∈ x5, ap a x := by
    constructor
    · rintro H a ha j hj ⟨h1, h2⟩
      exact H j (Nat.zero_le _) (by omega) ⟨(h.bit j hj).mpr ⟨a, ha, h1⟩, by rw [← hm]; exact h2⟩
    · rintro H j _ hj ⟨h1, h2⟩
      obtain ⟨a, ha, h3⟩ := (h.bit j (by omega)).mp h1
      exact H a ha j (by omega) ⟨h3, by rw [hm]; exact h2⟩
  rw [e1, e3]
  refine ⟨?_, ?_, ⟨_, rfl, Nat.or_lt_two_pow hM2 hm2⟩, ?_, by omega, by rw [List.length_append, List.length_singleton]; omega, by omega, ?_⟩
  · intro y hy
    rcases List.mem_append.mp hy with hy | hy
    · exact h.ok y hy
    · rw [List.mem_singleton.mp hy]; exact hx
  · have := h.msk
    unfold masks at *
    rw [List.foldl_append, this]; exact e1
  · intro j hj
    rw [or_bit M m hM2 hm2 j hj]
    constructor
    · intro q
      have q : bitOf (M : Int) j = 1 ∨ bitOf (m : Int) j = 1 := by
        by_cases c : bitOf (M : Int) j = 1 ∨ bitOf (m : Int) j = 1
        · exact c
        · rw [if_neg c] at q; omega
      rcases q with q | q
      · obtain ⟨a, ha, h3⟩ := (h.bit j hj).mp q
        exact ⟨a, List.mem_append_left _ ha, h3⟩
      · exact ⟨x, List.mem_append_right _ (List.mem_singleton_self _), by rw [hm]; exact q⟩
    · rintro ⟨a, ha, h3⟩
      rcases List.mem_append.mp ha with ha | ha
      · rw [if_pos (.inl ((h.bit j hj).mpr ⟨a, ha, h3⟩))]
      · rw [List.mem_singleton.mp ha, hm] at h3
        rw [if_pos (.inr h3)]
  · rw [hp, ← h.eq, ← hcm, ← o2]
    omega
theorem pla_pw (L : List S63) : PlA L 0 ↔ (∀ x ∈ L, gd x) ∧ L.Pairwise (fun a b => ¬ mt b a) := by
  have hb : ∀ i (h : i < L.length), bx L i = L[i] := fun i h => by simp [bx, List.getD_eq_getElem?_getD, h]
  rw [List.pairwise_iff_getElem]
  constructor
  · intro h
    refine ⟨fun x hx => ?_, fun i j hi hj hij => ?_⟩
    · obtain ⟨i, hi, rfl⟩ := List.mem_iff_getElem.mp hx
      rw [← hb i hi]; exact (h i (Nat.zero_le _) hi).1
    · rw [← hb i hi, ← hb j hj]; exact (h j (Nat.zero_le _) hj).2 i hij
  · rintro ⟨h1, h2⟩ p _ hp
    rw [hb p hp]
    refine ⟨h1 _ (List.getElem_mem hp), fun q hq => ?_⟩
    rw [hb q (by omega)]; exact h2 q p (by omega) hp hq
theorem okA_rows {now : Int} {x : S32} (h : okA now x) : GoodP x.f8 0 x.f3 1 ∧ ∃ L, Runs x.f9 0 L ∧ rowsO x = L.map (runBox x.f8 x.f3) := by
  obtain ⟨_, ⟨a1, a2, a3, a4, _, _, _⟩, _, _⟩ := h
  have g : GoodP x.f8 0 x.f3 1 := by unfold GoodP; omega
  obtain ⟨L, h1, h2⟩ := rowsF x.f8 x.f3 x.f9 g
  refine ⟨g, L, h1, ?_⟩
  unfold rowsO; rw [h2]; rfl
theorem cross {now : Int} {a b : S32} (ha : okA now a) (hb : okA now b) : (∀ u ∈ rowsO a, ∀ v ∈ rowsO b, ¬ mt v u) ↔ ap a b := by
  obtain ⟨ga, L, hL, eL⟩ := okA_rows ha
  obtain ⟨gb, K, hK, eK⟩ := okA_rows hb
  obtain ⟨_, _, a1, a2⟩ := ha
  obtain ⟨_, _, b1, b2⟩ := hb
  rw [eL, eK]
  unfold GoodP at ga gb
  constructor
  · rintro H j hj ⟨h1, h2⟩
    obtain ⟨r, hr, r1, r2⟩ := runs_cover _ _ _ hL j (Nat.zero_le _) hj h1
    obtain ⟨u, hu, u1, u2⟩ := runs_cover _ _ _ hK j (Nat.zero_le _) hj h2
    obtain ⟨_, p1, p2, _⟩ := runs_mem _ _ _ hL r hr
    obtain ⟨_, q1, q2, _⟩ := runs_mem _ _ _ hK u hu
    refine H _ (List.mem_map.mpr ⟨r, hr, rfl⟩) _ (List.mem_map.mpr ⟨u, hu, rfl⟩) ?_
    unfold mt MeetP GoodP runBox
    simp only []
    omega
  · rintro H _ hr' _ hu' hm
    obtain ⟨r, hr, rfl⟩ := List.mem_map.mp hr'
    obtain ⟨u, hu, rfl⟩ := List.mem_map.mp hu'
    obtain ⟨_, p1, p2, p3⟩ := runs_mem _ _ _ hL r hr
    obtain ⟨_, q1, q2, q3⟩ := runs_mem _ _ _ hK u hu
    unfold mt MeetP runBox at hm
    simp only [] at hm
    exact H (max r.1 u.1) (by omega) ⟨p3 _ (by omega) (by omega), q3 _ (by omega) (by omega)⟩
theorem apart_iff {now : Int} {l : List S32} (h : ∀ x ∈ l, okA now x) : PlA (l.flatMap rowsO) 0 ↔ l.Pairwise ap := by
  rw [pla_pw, List.pairwise_flatMap]
  have each : ∀ a ∈ l, PlA (rowsO a) 0 := by
    intro a ha
    obtain ⟨g, L, hL, e⟩ := okA_rows (h a ha)
    rw [e]
    exact runs_apart _ _ _ g L hL
  have hw : l.Pairwise (fun a b => ∀ u ∈ rowsO a, ∀ v ∈ rowsO b, ¬ mt v u) ↔ l.Pairwise ap := List.Pairwise.iff_of_mem (fun ha hb => cross (h _ ha) (h _ hb))
  constructor
  · rintro ⟨_, _, H⟩; exact hw.mp H
  · intro H
    refine ⟨fun x hx => ?_, fun a ha => ((pla_pw _).mp (each a ha)).2, hw.mpr H⟩
    obtain ⟨a, ha, hx⟩ := List.mem_flatMap.mp hx
    exact ((pla_pw _).mp (each a ha)).1 x hx
theorem flat32 {now : Int} : ∀ (l : List S32), (∀ x ∈ l, okA now x) → (l.flatMap rowsO).length ≤ 32 * l.length
  | [], _ => Nat.le_refl _
  | x :: l, h => by
    have := flat32 l (fun y hy => h y (List.mem_cons_of_mem _ hy))
    obtain ⟨_, L, hL, e⟩ := okA_rows (h x (List.mem_cons_self ..))
    have h2 := runs_len _ _ _ hL (by omega)
    rw [List.flatMap_cons, List.length_append, List.length_cons, e, List.length_map]
    omega
theorem goodD (dw : DW) (x : S32) (hx : ∃ l, dw.dr x.f11 = some l ∧ l.length ≤ maxLen) : ∃ b, @job_GoodD.f dw x.f0 x.f1 x.f2 x.f3 x.f4 x.f5 x.f6 x.f7 x.f8 x.f9 x.f10 x.f11 = some b ∧ (b = true → x.f7 = 3 → OkR x.f2 x.f3 x.f8 x.f9) := by
  obtain ⟨l, h1, h2⟩ := hx
  obtain ⟨b, h3, h4⟩ := goodR x.f0 x.f1 x.f2 x.f3 x.f4 x.f5 x.f6 x.f7 x.f8 x.f9 x.f10 l h2
  refine ⟨b, ?_, h4⟩
  unfold job_GoodD.f
  rw [h1, Option.bind_some]
  exact h3
theorem due_none {now : Int} (hn : 0 ≤ now ∧ now ≤ 65535) {l : List S32} (h : ∀ x ∈ l, okA now x) : due l now = [] := by
  unfold due
  rw [List.filter_eq_nil_iff.mpr ?_, List.map_nil]
  intro x hx
  have hx2 := (isort_perm (rs l)).mem_iff.mp hx
  obtain ⟨_, ⟨a1, a2, a3, a4, _⟩, b1, b2⟩ := h x (List.mem_filter.mp hx2).1
  have e : endOf x = x.f8 + x.f3 := by unfold endOf wrap64; omega
  simp only [decide_eq_true_eq]
  omega
open Classical in
theorem ap_l1 (dw : DW) (now : Int) (hn : 0 ≤ now ∧ now ≤ 65535) (x5 : List S32) (x6 x7 : Int) (hl : x5.length ≤ 16) (H : INV now x5 x6 x7) : ∀ (d n : Nat) (a : Int), n + d = 32 → 0 ≤ a → a ≤ n → a + ones x6 d n = ones x6 32 0 → Ev (fun k => @prebendlaw19_JobApart.l1 dw k now x5 x6 x7 a (n : Int)) true := by
  intro d
  induction d with
  | zero =>
    intro n a h a0 a1 he
    have ea : a = ones x6 32 0 := by rw [← he]; simp [ones]
    have hrs : rs x5 = x5 := rs_all (fun x hx => (H.ok x hx).1)
    have hl2 := flat32 x5 H.ok
    obtain ⟨K0, hK0⟩ := awake_ev
    obtain ⟨K1, hK1⟩ := boxes_ev x5 (by omega)
    obtain ⟨K2, hK2⟩ := mask_ev x5 (by omega)
    obtain ⟨K3, hK3⟩ := due_ev x5 (by omega) now
    rw [hrs] at hK1 hK2
    rw [due_none hn H.ok] at hK3
    have ew : wrap64 now = now := by unfold wrap64; omega
    refine ⟨K0 + K1 + K2 + K3 + ((x5.flatMap rowsO).length * 700 + 1) + 1, fun k hk => ?_⟩
    obtain ⟨k, rfl⟩ : ∃ k', k = k' + 1 := ⟨k - 1, by omega⟩
    have h0 : prebendlaw19_awake.f k = some true := hK0 k (by omega)
    have h1 : job_Boxes.f k x5 = some _ := hK1 k (by omega)
    have h2 : job_Mask.f k x5 = some _ := hK2 k (by omega)
    have h3 : job_Due.f k x5 now = some _ := hK3 k (by omega)
    have h4 := Apart_eq (x5.flatMap rowsO) (by omega) k (by omega)
    have hq : (decide (PlA (x5.flatMap rowsO) 0) == (a == x7)) = true := by
      rw [beq_iff_eq, ea, Bool.eq_iff_iff, decide_eq_true_iff, beq_iff_eq, apart_iff H.ok, H.eq]
    show @prebendlaw19_JobApart.l1 dw (k + 1) now x5 x6 x7 a (n : Int) = some true
    rw [@prebendlaw19_JobApart.l1.eq_2 dw, if_neg (by omega), h0, Option.bind_some, if_pos rfl, h1, Option.bind_some, h4, Option.bind_some, if_pos hq, h2, Option.bind_some, if_pos H.msk, ew, h3, Option.bind_some]
    rfl
  | succ d ih =>
    intro n a h a0 a1
    have eu := u64_small (n : Int) (by omega) (by omega)
    have hb := bit01 x6 n
    have ea : wrap64 (a + bitOf x6 n) = a + bitOf x6 n := by unfold wrap64; omega
    have en : wrap64 ((n : Int) + 1) = ((n + 1 : Nat) : Int) := by unfold wrap64; omega
    have g1 : n + 1 + d = 32 := by omega
    have g2 : 0 ≤ a + bitOf x6 n := by omega
    have g3 : a + bitOf x6 n ≤ ((n + 1 : Nat) : Int) := by omega
    have g4 : (n : Int) < 32 := by omega
    have g5 : (0 : Int) ≤ (n : Int) := by omega
    intro he
    obtain ⟨K, hK⟩ := ih (n + 1) (a + bitOf x6 n) g1 g2 g3 ((Int.add_assoc _ _ _).trans he)
    clear he hb ih g2 g3
    refine ⟨K + 1, fun k hk => ?_⟩
    obtain ⟨k, rfl⟩ : ∃ k', k = k' + 1 := ⟨k - 1, (Nat.sub_add_cancel (Nat.le_trans (Nat.le_add_left 1 K) hk)).symm⟩
    have h2 : @prebendlaw19_JobApart.l1 dw k now x5 x6 x7 (a + bitOf x6 n) ((n + 1 : Nat) : Int) = some true := hK k (Nat.le_of_succ_le_succ hk)
    show @prebendlaw19_JobApart.l1 dw (k + 1) now x5 x6 x7 a (n : Int) = some true
    rw [@prebendlaw19_JobApart.l1.eq_2 dw, if_pos g4, eu, if_pos g5]
    unfold bitOf at ea h2
    rw [ea, en]
    exact h2
theorem ap_l0 (dw : DW) (l0 : List S32) (hd : ∀ y ∈ l0, ∃ l, dw.dr y.f11 = some l ∧ l.length ≤ maxLen) (now : Int) (hn : 0 ≤ now ∧ now ≤ 65535) : ∀ (d i : Nat) (x5 : List S32) (x6 x7 : Int), i + d = 16 → i ≤ l0.length → x5.length ≤ i → INV now x5 x6 x7 → Ev (fun k => @prebendlaw19_JobApart.l0 dw k l0 now x5 x6 x7 (i : Int)) true := by
  have fin : ∀ (i : Nat) (x5 : List S32) (x6 x7 : Int), x5.length ≤ 16 → INV now x5 x6 x7 → (i < l0.length → 16 ≤ i) → Ev (fun k => @prebendlaw19_JobApart.l0 dw k l0 now x5 x6 x7 (i : Int)) true := by
    intro i x5 x6 x7 hl H hi
    obtain ⟨K, hK⟩ := ap_l1 dw now hn x5 x6 x7 hl H 32 0 0 (by omega) (by omega) (by omega) (by omega)
    refine ⟨K + 2, fun k hk => ?_⟩
    obtain ⟨k, rfl⟩ : ∃ k', k = k' + 2 := ⟨k - 2, by omega⟩
    have h2 : @prebendlaw19_JobApart.l1 dw k now x5 x6 x7 0 ((0 : Nat) : Int) = some true := hK k (by omega)
    have h3 : @prebendlaw19_JobApart.j1 dw (k + 1) l0 now x5 x6 x7 (i : Int) false = some true := by
      rw [@prebendlaw19_JobApart.j1.eq_2 dw, if_neg (by decide)]; exact h2
    show @prebendlaw19_JobApart.l0 dw (k + 2) l0 now x5 x6 x7 (i : Int) = some true
    rw [@prebendlaw19_JobApart.l0.eq_2 dw]
    by_cases c : (i : Int) < (l0.length : Int)
    · rw [if_pos c, decide_eq_false (show ¬ ((i : Int) < 16) by omega)]; exact h3
    · rw [if_neg c]; exact h3
  intro d
  induction d with
  | zero => intro i x5 x6 x7 h1 _ h2 H; exact fin i x5 x6 x7 (by omega) H (fun _ => by omega)
  | succ d ih =>
    intro i x5 x6 x7 h1 h0 h2 H
    by_cases c : i < l0.length
    case neg => exact fin i x5 x6 x7 (by omega) H (fun h => absurd h c)
    have en : wrap64 ((i : Int) + 1) = ((i + 1 : Nat) : Int) := by unfold wrap64; omega
    have enow : wrap64 now = now := by unfold wrap64; omega
    obtain ⟨b, g1, g2⟩ := goodD dw l0[i] (hd _ (List.getElem_mem c))
    obtain ⟨K, hK⟩ := ih (i + 1) x5 x6 x7 (by omega) (by omega) (by omega) H
    have skip : ∀ X : Nat → Option Bool, (∀ k, X (k + 2) = @prebendlaw19_JobApart.l0 dw k l0 now x5 x6 x7 ((i + 1 : Nat) : Int)) → Ev X true := by
      intro X hX
      refine ⟨K + 2, fun k hk => ?_⟩
      obtain ⟨k, rfl⟩ : ∃ k', k = k' + 2 := ⟨k - 2, by omega⟩
      rw [hX]; exact hK k (by omega)
    have op : ∀ k, @prebendlaw19_JobApart.l0 dw (k + 2) l0 now x5 x6 x7 (i : Int) = @prebendlaw19_JobApart.j1 dw (k + 1) l0 now x5 x6 x7 (i : Int) true := by
      intro k
      rw [@prebendlaw19_JobApart.l0.eq_2 dw, if_pos (by omega), decide_eq_true (show ((i : Int) < 16) by omega)]
    by_cases cb : b = true
    case neg =>
      refine skip _ (fun k => ?_)
      show @prebendlaw19_JobApart.l0 dw (k + 2) l0 now x5 x6 x7 (i : Int) = _
      rw [op, @prebendlaw19_JobApart.j1.eq_2 dw, if_pos rfl, if_pos (by omega), if_pos (by omega), rdJ c, g1, Option.bind_some, if_neg cb, en]
    by_cases c7 : l0[i].f7 = 3
    case neg =>
      refine skip _ (fun k => ?_)
      show @prebendlaw19_JobApart.l0 dw (k + 2) l0 now x5 x6 x7 (i : Int) = _
      rw [op, @prebendlaw19_JobApart.j1.eq_2 dw, if_pos rfl, if_pos (by omega), if_pos (by omega), rdJ c, g1, Option.bind_some, if_pos cb, if_neg c7, en]
    have ok := g2 cb c7
    obtain ⟨a1, a2, a3, a4, _⟩ := id ok
    by_cases c8 : l0[i].f8 ≤ now
    case neg =>
      refine skip _ (fun k => ?_)
      show @prebendlaw19_JobApart.l0 dw (k + 2) l0 now x5 x6 x7 (i : Int) = _
      rw [op, @prebendlaw19_JobApart.j1.eq_2 dw, if_pos rfl, if_pos (by omega), if_pos (by omega), rdJ c, g1, Option.bind_some, if_pos cb, if_pos c7, enow, if_neg c8, en]
    have ee : wrap64 (l0[i].f8 + l0[i].f3) = l0[i].f8 + l0[i].f3 := by unfold wrap64; omega
    by_cases c9 : l0[i].f8 + l0[i].f3 > now
    case neg =>
      refine skip _ (fun k => ?_)
      show @prebendlaw19_JobApart.l0 dw (k + 2) l0 now x5 x6 x7 (i : Int) = _
      rw [op, @prebendlaw19_JobApart.j1.eq_2 dw, if_pos rfl, if_pos (by omega), if_pos (by omega), rdJ c, g1, Option.bind_some, if_pos cb, if_pos c7, enow, if_pos c8, ee, if_neg c9, en]
    obtain ⟨K2, hK2⟩ := ih (i + 1) (x5 ++ [l0[i]]) _ _ (by omega) (by omega) (by rw [List.length_append, List.length_singleton]; omega) (H.snoc (by omega) l0[i] ⟨c7, ok, c8, c9⟩)
    refine ⟨K2 + 2, fun k hk => ?_⟩
    obtain ⟨k, rfl⟩ : ∃ k', k = k' + 2 := ⟨k - 2, by omega⟩
    have h5 := hK2 k (by omega)
    show @prebendlaw19_JobApart.l0 dw (k + 2) l0 now x5 x6 x7 (i : Int) = _
    rw [op, @prebendlaw19_JobApart.j1.eq_2 dw, if_pos rfl, if_pos (by omega), if_pos (by omega), rdJ c, g1, Option.bind_some, if_pos cb, if_pos c7, enow, if_pos c8, ee, if_pos c9, if_pos (by omega), en]
    exact h5
theorem u16_bd (x : Int) (h : (Lit.int .u16 x).wf = true) : 0 ≤ x ∧ x ≤ 65535 := by
  simp only [Lit.wf, Bool.and_eq_true, decide_eq_true_eq] at h
  have e1 : IntKind.u16.min = 0 := by decide +kernel
  have e2 : IntKind.u16.max = 65535 := by decide +kernel
  omega
theorem JobApart : prebendlaw19_JobApart.Pure := by
  intro dw l0 a1 _ hd w1
  have b1 := u16_bd a1 w1
  obtain ⟨K, hK⟩ := ap_l0 dw l0 hd a1 b1 16 0 [] 0 0 (by omega) (Nat.zero_le _) (Nat.le_refl _) (INV.nil a1)
  exact ⟨K, hK K (Nat.le_refl _)⟩

end Go.Proofs.Ytkhfgflcanmefaa.Pure
end
section
namespace Go.Proofs.Ytkhfgflcanmefaa.Rd
open Go.ChangeShapes Go.WideShapes Go.Deep Go.RowKit Go.Proofs.YtkhfgflcanmefaaW.PrintWords
set_option linter.unusedVariables false
def Rds {α : Type} (P : Program) (d : Kd α) (T : TypeId) (good : α → Prop) : Prop :=
  ∀ (H : Type) (enc : TypeId × Value → H) (w : World) (base : Nat) (spare : Nat → Bool) (held : Bool) (n : Nat) (cs : List Value) (y : DataW H × List MemPlace),
    DataW.trod enc P w base spare held n T cs = some y → ∃ x, d.K w x cs ∧ good x
theorem rds_int {P : Program} {T : TypeId} {k : IntKind} (ht : P.underlying T = some (.int k)) : Rds P (Kd.int k) T (fun x => (Lit.int k x).wf = true) := by
  intro H enc w base spare held n cs y h
  obtain ⟨m, rfl, _, hw⟩ := DataW.trod_int ht h
  exact ⟨m, rfl, hw⟩
theorem rds_slice {α : Type} {P : Program} {d : Kd α} {T e : TypeId} {good : α → Prop} (ht : P.underlying T = some (.slice e)) (hc : P.cellsOf e = d.sz) (hr : Rds P d e good) :
    Rds P (Kd.slice e d) T (fun xs => xs.length ≤ maxLen ∧ ∀ x ∈ xs, good x) := by
  intro H enc w base spare held n cs y h
  rcases open_slice ht h with ⟨rfl, _⟩ | ⟨a, len, cap, m, n', D, Pl, rfl, hb, hl, hm, hmm, _, hi⟩
  · exact ⟨[], ⟨none, 0, rfl, Nat.le_refl _, rfl, by simp, fun h0 => absurd h0 (by simp)⟩, by simp, by simp⟩
  · have hlm : len ≤ m := by rw [hmm]; split <;> omega
    have step : ∀ l, l ≤ len → ∃ xs : List α, xs.length = l ∧ (∀ x ∈ xs, good x) ∧ ∀ j p, xs[j]? = some p → ∃ c, w.cells? base (a.add (j * d.sz)) d.sz = some c ∧ d.K w p c := by
      intro l
      induction l with
      | zero => intro _; exact ⟨[], rfl, by simp, by simp⟩
      | succ l ih =>
        intro hl1
        obtain ⟨xs, hx, hg, hj⟩ := ih (by omega)
        obtain ⟨c, h1, h2⟩ := hi l (by omega)
        obtain ⟨x, k, g⟩ := hr _ _ _ _ _ _ _ _ _ h2
        rw [hc] at h1
        refine ⟨xs ++ [x], by simp [hx], ?_, ?_⟩
        · intro z hz
          rcases List.mem_append.1 hz with hz | hz
          · exact hg z hz
          · rw [List.mem_singleton.1 hz]; exact g
        · intro j p hp
          rcases Nat.lt_or_ge j xs.length with hlt | hge
          · rw [List.getElem?_append_left hlt] at hp; exact hj j p hp
          · have hjl : j = l := by
              have := (List.getElem?_eq_some_iff.1 hp).1
              rw [List.length_append, List.length_singleton] at this
              omega
            subst hjl
            rw [List.getElem?_append_right hge, hx, Nat.sub_self] at hp
            simp at hp
            subst hp
            exact ⟨c, h1, k⟩
    obtain ⟨xs, hx, hg, hj⟩ := step len (Nat.le_refl _)
    refine ⟨xs, ⟨some a, cap, by rw [hx], by omega, rfl, by rw [hx]; unfold maxLen at hm; omega, fun _ => ⟨a, rfl, fun j p hp => ?_⟩⟩, by rw [hx]; omega, hg⟩
    obtain ⟨c, h1, k⟩ := hj j p hp
    refine ⟨c, d.K_len k, k, fun i u hu => ?_⟩
    obtain ⟨_, hcl, hat⟩ := World.cells?_some h1
    have hil : i < d.sz := by have := (List.getElem?_eq_some_iff.1 hu).1; omega
    rw [← Go.Deep.add_add, hat i hil, hu]
theorem pair_mk {α β : Type} {a : Kd α} {b : Kd β} {w : World} {x : α} {y : β} {cs : List Value} {o : Nat} (h1 : a.K w x ((cs.drop o).take a.sz)) (h2 : b.K w y (cs.drop (o + a.sz))) : (Kd.pair a b).K w (x, y) (cs.drop o) :=
  ⟨_, _, by rw [← List.drop_drop]; exact (List.take_append_drop a.sz (cs.drop o)).symm, h1, h2⟩
theorem last_mk {α : Type} {a : Kd α} {w : World} {x : α} {cs : List Value} {o : Nat} (hl : cs.length = o + a.sz) (h1 : a.K w x ((cs.drop o).take a.sz)) : a.K w x (cs.drop o) := by
  rwa [List.take_of_length_le (by rw [List.length_drop]; omega)] at h1
theorem field {H : Type} {enc : TypeId × Value → H} {P : Program} {w : World} {base : Nat} {spare : Nat → Bool} {held : Bool} {n : Nat} {cs : List Value} {fs : Array Field} {xs : List (DataW H × List MemPlace)} (hx : xs.length = fs.size)
    (hf : ∀ (i : Nat) (f : Field), fs[i]? = some f → DataW.trod enc P w base spare held n f.type ((cs.drop f.offset).take (P.cellsOf f.type)) = xs[i]?)
    (i : Nat) (f : Field) (hi : fs[i]? = some f) {α : Type} {d : Kd α} {good : α → Prop} {o T : Nat} (ho : f.offset = o) (hT : f.type = T) (hc : P.cellsOf T = d.sz) (hr : Rds P d T good) : ∃ x, d.K w x ((cs.drop o).take d.sz) ∧ good x := by
  have h := hf i f hi
  have hlt : i < xs.length := by rw [hx]; exact (Array.getElem?_eq_some_iff.1 hi).1
  rw [List.getElem?_eq_getElem hlt, ho, hT, hc] at h
  exact hr _ _ _ _ _ _ _ _ _ h
end Go.Proofs.Ytkhfgflcanmefaa.Rd
end
section
namespace Go.Proofs.Ytkhfgflcanmefaa.jobApart
open Go.ChangeShapes Go.WideShapes Go.ChangeAt Go.RowKit Go.Proofs.YtkhfgflcanmefaaW.PrintWords Go.Proofs.Ytkhfgflcanmefaa.PAll
open Go.ChangeMaps (open_string shut_string)
set_option linter.unusedVariables false
theorem own : ownKnob Try.prog.godebug = none := by kernel_rfl
theorem laidOut : laidOutB Try.prog = true := by kernel_rfl
theorem rds80 : Rd.Rds Try.prog k80 80 g80 := by
  intro H enc w base spare held n cs y h
  obtain ⟨xs, m, _, _, hlen, hxl, hf⟩ := DataW.trod_struct Try.underlying80 h
  have hl : cs.length = 2 := hlen.trans (by kernel_rfl)
  obtain ⟨x0, h0, g0_⟩ := Rd.field hxl hf 0 _ rfl (d := (Kd.int .i64)) (good := (fun x => (Lit.int .i64 x).wf = true)) (o := 0) (T := 3) rfl rfl (by kernel_rfl) (Rd.rds_int Try.underlying3)
  obtain ⟨x1, h1, g1_⟩ := Rd.field hxl hf 1 _ rfl (d := (Kd.int .i64)) (good := (fun x => (Lit.int .i64 x).wf = true)) (o := 1) (T := 3) rfl rfl (by kernel_rfl) (Rd.rds_int Try.underlying3)
  have hK := (Rd.pair_mk (o := 0) h0 (Rd.last_mk (a := (Kd.int .i64)) (o := 1) hl h1))
  exact ⟨⟨x0, x1⟩, (by rw [List.drop_zero] at hK; exact hK), ⟨g0_, g1_⟩⟩
theorem rds32R : Rd.Rds Try.prog k32R 32 g32R := by
  intro H enc w base spare held n cs y h
  obtain ⟨xs, m, _, _, hlen, hxl, hf⟩ := DataW.trod_struct Try.underlying32 h
  have hl : cs.length = 12 := hlen.trans (by kernel_rfl)
  obtain ⟨x0, h0, g0_⟩ := Rd.field hxl hf 0 _ rfl (d := (Kd.int .i64)) (good := (fun x => (Lit.int .i64 x).wf = true)) (o := 0) (T := 3) rfl rfl (by kernel_rfl) (Rd.rds_int Try.underlying3)
  obtain ⟨x1, h1, g1_⟩ := Rd.field hxl hf 1 _ rfl (d := (Kd.int .i64)) (good := (fun x => (Lit.int .i64 x).wf = true)) (o := 1) (T := 3) rfl rfl (by kernel_rfl) (Rd.rds_int Try.underlying3)
  obtain ⟨x2, h2, g2_⟩ := Rd.field hxl hf 2 _ rfl (d := (Kd.int .i64)) (good := (fun x => (Lit.int .i64 x).wf = true)) (o := 2) (T := 3) rfl rfl (by kernel_rfl) (Rd.rds_int Try.underlying3)
  obtain ⟨x3, h3, g3_⟩ := Rd.field hxl hf 3 _ rfl (d := (Kd.int .i64)) (good := (fun x => (Lit.int .i64 x).wf = true)) (o := 3) (T := 3) rfl rfl (by kernel_rfl) (Rd.rds_int Try.underlying3)
  obtain ⟨x4, h4, g4_⟩ := Rd.field hxl hf 4 _ rfl (d := (Kd.int .i64)) (good := (fun x => (Lit.int .i64 x).wf = true)) (o := 4) (T := 3) rfl rfl (by kernel_rfl) (Rd.rds_int Try.underlying3)
  obtain ⟨x5, h5, g5_⟩ := Rd.field hxl hf 5 _ rfl (d := (Kd.int .i64)) (good := (fun x => (Lit.int .i64 x).wf = true)) (o := 5) (T := 3) rfl rfl (by kernel_rfl) (Rd.rds_int Try.underlying3)
  obtain ⟨x6, h6, g6_⟩ := Rd.field hxl hf 6 _ rfl (d := (Kd.int .i64)) (good := (fun x => (Lit.int .i64 x).wf = true)) (o := 6) (T := 3) rfl rfl (by kernel_rfl) (Rd.rds_int Try.underlying3)
  obtain ⟨x7, h7, g7_⟩ := Rd.field hxl hf 7 _ rfl (d := (Kd.int .i64)) (good := (fun x => (Lit.int .i64 x).wf = true)) (o := 7) (T := 3) rfl rfl (by kernel_rfl) (Rd.rds_int Try.underlying3)
  obtain ⟨x8, h8, g8_⟩ := Rd.field hxl hf 8 _ rfl (d := (Kd.int .i64)) (good := (fun x => (Lit.int .i64 x).wf = true)) (o := 8) (T := 3) rfl rfl (by kernel_rfl) (Rd.rds_int Try.underlying3)
  obtain ⟨x9, h9, g9_⟩ := Rd.field hxl hf 9 _ rfl (d := (Kd.int .i64)) (good := (fun x => (Lit.int .i64 x).wf = true)) (o := 9) (T := 3) rfl rfl (by kernel_rfl) (Rd.rds_int Try.underlying3)
  obtain ⟨x10, h10, g10_⟩ := Rd.field hxl hf 10 _ rfl (d := (Kd.int .i64)) (good := (fun x => (Lit.int .i64 x).wf = true)) (o := 10) (T := 3) rfl rfl (by kernel_rfl) (Rd.rds_int Try.underlying3)
  obtain ⟨x11, h11, g11_⟩ := Rd.field hxl hf 11 _ rfl (d := (Kd.slice 80 k80)) (good := (fun x => (x.length ≤ maxLen ∧ ∀ y ∈ x, g80 y))) (o := 11) (T := 30) rfl rfl (by kernel_rfl) (Rd.rds_slice (P := Try.prog) (T := 30) Try.underlying30 (by kernel_rfl) rds80)
  have hK := (Rd.pair_mk (o := 0) h0 (Rd.pair_mk (o := 1) h1 (Rd.pair_mk (o := 2) h2 (Rd.pair_mk (o := 3) h3 (Rd.pair_mk (o := 4) h4 (Rd.pair_mk (o := 5) h5 (Rd.pair_mk (o := 6) h6 (Rd.pair_mk (o := 7) h7 (Rd.pair_mk (o := 8) h8 (Rd.pair_mk (o := 9) h9 (Rd.pair_mk (o := 10) h10 (Rd.last_mk (a := (Kd.slice 80 k80)) (o := 11) hl h11))))))))))))
  exact ⟨⟨x0, x1, x2, x3, x4, x5, x6, x7, x8, x9, x10, x11⟩, (by rw [List.drop_zero] at hK; exact hK), ⟨g0_, g1_, g2_, g3_, g4_, g5_, g6_, g7_, g8_, g9_, g10_, g11_⟩⟩
/-- What a header in a world may stand for. -/
def HeadAt (W : World) (s : SH) (l : List S80) : Prop := s.n = l.length ∧ l.length ≤ s.c ∧ Kd.C k80 W s.A l.length l ∧ l.length ≤ maxLen
theorem choose_row {α : Type} {P : Nat → α → Prop} : ∀ n, (∀ j, j < n → ∃ y, P j y) → ∃ ys : List α, ys.length = n ∧ ∀ j y, ys[j]? = some y → P j y
  | 0, _ => ⟨[], rfl, fun j y h => by simp at h⟩
  | n + 1, h => by
    obtain ⟨ys, h1, h2⟩ := choose_row n (fun j hj => h j (by omega))
    obtain ⟨y, hy⟩ := h n (by omega)
    refine ⟨ys ++ [y], by simp [h1], fun j z hz => ?_⟩
    by_cases c : j < n
    · rw [List.getElem?_append_left (by omega)] at hz; exact h2 j z hz
    · have hj : j = n := by have := (List.getElem?_eq_some_iff.mp hz).1; simp at this; omega
      rw [List.getElem?_append_right (by omega), show j - ys.length = 0 by omega] at hz
      obtain rfl : y = z := by simpa using hz
      rw [hj]; exact hy
theorem heads {W : World} {A : Option Addr} {xs : List S32R} (h : Kd.C k32R W A xs.length xs) (hm : ∀ y ∈ xs, y.f11.length ≤ maxLen) : ∃ l0 : List S32, l0.length = xs.length ∧ Kd.C k32 W A l0.length l0 ∧ ∀ y ∈ l0, ∃ l, HeadAt W y.f11 l := by
  obtain ⟨_, hn, hx⟩ := h
  by_cases c : 0 < xs.length
  · obtain ⟨ad, rfl, hj⟩ := hx c
    obtain ⟨ys, e, hy⟩ := choose_row (P := fun j (y : S32) => (∃ c, c.length = 12 ∧ k32.K W y c ∧ ∀ i u, c[i]? = some u → W.cell? (ad.add (j * 12 + i)) = some u) ∧ ∃ l, HeadAt W y.f11 l) xs.length (fun j hlt => by
      obtain ⟨cs, c1, c2, c3⟩ := hj j xs[j] (List.getElem?_eq_getElem hlt)
      obtain ⟨A11, c11, rfl, l1, l2⟩ := k32R_open c2
      exact ⟨(⟨xs[j].f0, xs[j].f1, xs[j].f2, xs[j].f3, xs[j].f4, xs[j].f5, xs[j].f6, xs[j].f7, xs[j].f8, xs[j].f9, xs[j].f10, ⟨A11, xs[j].f11.length, c11⟩⟩ : S32), ⟨_, c1, k32_mk W _, c3⟩, xs[j].f11, rfl, l1, l2, hm _ (List.getElem_mem hlt)⟩)
    refine ⟨ys, e, ⟨rfl, by omega, fun _ => ⟨ad, rfl, fun j p hp => (hy j p hp).1⟩⟩, fun y hyy => ?_⟩
    obtain ⟨j, hlt, rfl⟩ := List.mem_iff_getElem.mp hyy
    exact (hy j _ (List.getElem?_eq_getElem hlt)).2
  · exact ⟨[], by simp; omega, ⟨rfl, by simp, fun h => absurd h (by simp)⟩, by simp⟩
open Classical in
theorem stands (W : World) : ∃ dw : DW, @DWAt dw W ∧ ∀ s, (∃ l, HeadAt W s l) → ∃ l, dw.dr s = some l ∧ l.length ≤ maxLen := by
  refine ⟨⟨fun s => if h : ∃ l, HeadAt W s l then some h.choose else none⟩, ?_, fun s h => ?_⟩
  · refine @DWAt.mk ⟨fun s => if h : ∃ l, HeadAt W s l then some h.choose else none⟩ W (fun s l q => ?_)
    have q : (if h : ∃ l, HeadAt W s l then some h.choose else none) = some l := q
    by_cases h : ∃ l, HeadAt W s l
    · rw [dif_pos h] at q
      have hs := h.choose_spec
      rw [Option.some.inj q] at hs
      exact ⟨hs.1, hs.2.1, hs.2.2.1⟩
    · rw [dif_neg h] at q; cases q
  · refine ⟨h.choose, ?_, h.choose_spec.2.2.2⟩
    show (if h : ∃ l, HeadAt W s l then some h.choose else none) = _
    rw [dif_pos h]
set_option maxRecDepth 100000 in
theorem lifted (os : Os) (started : os.Started) (H : Type) (enc : TypeId × Value → H) :
    ReturnsInHanded {} Try.checked os 8 .any (Rows.jobApartSpec.pre6 enc Try.prog Try.f8 Rows.jobApartRow.domain false) (Rows.jobApartSpec.post enc Try.prog Try.f8 false true false false) := by
  refine returnsInHanded_of_change_sized (C := Try.checked) own started (by kernel_rfl) Try.func8
    (ChangeSpec.witness6 (enc := enc) (C := Try.checked) false ⟨#[], #[.slice none 0 0, .int .u16 0], []⟩ 8 (by kernel_rfl) (by kernel_rfl) (by kernel_rfl) (by kernel_rfl)) ?_
  intro W base args ds gs before hval0 hW hcnd hsz0 _
  have hval : ∀ (j : Nat) t v, Try.f8.params[j]? = some t → args[j]? = some v → Value.okWide Try.prog W .any base t v := hval0
  have hW' := hW
  obtain ⟨p, q, hA0, hV, rfl, hfz, hnd⟩ := hW
  have hA : DataW.TrodAll enc Try.prog W 0 (fun _ => true) true Try.f8.params.toList args.toList ds p := hA0
  rw [Try.params8] at hA hval
  obtain ⟨v0, vs0, d0, ds0, p0, q0, hargs, rfl, rfl, h0, r0⟩ := trodAll_cons hA
  obtain ⟨v1, vs1, d1, ds1, p1, q1, rfl, rfl, rfl, h1, r1⟩ := trodAll_cons r0
  obtain ⟨rfl, rfl, rfl⟩ := trodAll_nil r1
  obtain rfl : args = #[v0, v1] := by cases args; simp_all
  obtain ⟨rfl, rfl⟩ := trodVars_none hV
  obtain ⟨a0, len0, cap0, rfl⟩ := okWide_slice Try.underlying22 (hval 0 22 v0 rfl rfl)
  have k0 := h0
  have lt0 : ∀ x ∈ p0, x.block < W.heap.size := by obtain ⟨m, hm⟩ := k0; exact DataW.trod_lt m _ _ _ hm
  obtain ⟨lR, ⟨A0, c0, he0, hl0, hC0⟩, g0_⟩ : ∃ xs, ((Kd.slice 32 k32R)).K W xs [.slice a0 len0 cap0] ∧ (fun x => (x.length ≤ maxLen ∧ ∀ y ∈ x, g32R y)) xs := by
    obtain ⟨fuel, hf⟩ := h0
    exact (Rd.rds_slice (P := Try.prog) (T := 22) Try.underlying22 (by kernel_rfl) rds32R) _ _ _ _ _ _ _ _ _ hf
  obtain ⟨rfl, rfl, rfl⟩ : a0 = A0 ∧ len0 = lR.length ∧ cap0 = c0 := by simpa using he0
  obtain ⟨a1, rfl, rfl, rfl, w1⟩ := open_int Try.underlying47 (hval 1 47 v1 rfl rfl) h1
  clear hA0 hval0 hsz0
  obtain ⟨l0, el, hC1, hh⟩ := heads hC0 (fun y hy => (g0_.2 y hy).2.2.2.2.2.2.2.2.2.2.2.1)
  obtain ⟨dw, hdw, hst⟩ := stands W
  have hq : ∀ y ∈ l0, ∃ l, dw.dr y.f11 = some l ∧ l.length ≤ maxLen := fun y hy => hst _ (hh y hy)
  have hw := @PAll.prebendlaw19_JobApart.walk Pure.JobApart dw _ _ l0 a1 W hdw hC1 (by rw [el]; exact hl0) (by rw [el]; exact g0_.1) hq w1
  rw [el] at hw
  refine hw.mono fun e W' ⟨he, bel⟩ => ?_
  subst he
  exact ⟨_, rfl, _, _, _, [], _, [], hW', trodAll_mk1 (shut_bool Try.underlying4 _), (trodAll_cons_mk (Below.trod laidOut (by kernel_rfl) (of_decide_eq_true (by kernel_rfl)) k0 bel lt0) (trodAll_cons_mk (shut_int Try.underlying47 w1) trodAll_mk0)), rfl, bel.frame _, fun h => by cases h⟩
theorem over : Rows.jobApartRow.holds Try.pinned (OpenSpec.ofChange Rows.jobApartSpec) :=
  OpenClaim.holds_of_wide 8 Try.f8 rfl rfl rfl rfl rfl rfl rfl ⟨rfl, rfl, rfl, rfl, rfl⟩ rfl rfl rfl rfl rfl (by kernel_rfl) Try.func8 (by kernel_rfl)
    (of_decide_eq_true (by kernel_rfl)) (by unfold Func.isWrapper; first | (rw [if_pos (by decide +kernel)]; kernel_rfl) | (rw [if_neg (by decide +kernel)]; exact ⟨rfl, rfl⟩))
    (fun os started H enc _ => lifted os started H enc)
theorem proved : Rows.JobApartSaid := over
#print axioms proved
end Go.Proofs.Ytkhfgflcanmefaa.jobApart
namespace Go.Proofs.Ytkhfgflcanmefaa
/-- The row, under a short name, for the claim. -/
theorem jobApart_holds : Rows.JobApartSaid := jobApart.proved
end Go.Proofs.Ytkhfgflcanmefaa
end
