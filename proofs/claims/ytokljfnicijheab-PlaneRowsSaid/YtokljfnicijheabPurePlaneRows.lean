/- The boxes of any nodes are the document's, at any tick and of any length. -/
import Derived.Test.YtokljfnicijheabPAllx21
import Derived.Laws.BitsLemmas
set_option linter.unusedVariables false
set_option linter.unusedSimpArgs false
namespace Go.Proofs.Ytokljfnicijheab.Pure
open Go Go.RowKit Go.Proofs.Ytokljfnicijheab.PAll Go.Proofs.YtokljfnicijheabW.PrintWords Go.Proofs.YtokljfnicijheabW.PrintLast

/-- What a box must be. -/
def GoodP (t n l m : Int) : Prop := 0 ≤ t ∧ t ≤ 1099511627776 ∧ 1 ≤ l ∧ l ≤ 1048576 ∧ 0 ≤ n ∧ n ≤ 31 ∧ 1 ≤ m ∧ n + m ≤ 32
instance (t n l m : Int) : Decidable (GoodP t n l m) := by unfold GoodP; infer_instance
theorem within_eq (a b c : Int) : plane_within.f a b c = some (decide (b ≤ a ∧ a ≤ c)) := by
  unfold plane_within.f; by_cases h : a ≥ b
  · rw [if_pos h]; congr 1; exact decide_eq_decide.mpr ⟨fun x => ⟨h, x⟩, fun x => x.2⟩
  · rw [if_neg h]; congr 1; symm; exact decide_eq_false (fun x => h x.1)
theorem in_eq (a b c : Int) : prebendref02_in.f a b c = some (decide (b ≤ a ∧ a ≤ c)) := by
  unfold prebendref02_in.f; by_cases h : a ≥ b
  · rw [if_pos h]; congr 1; exact decide_eq_decide.mpr ⟨fun x => ⟨h, x⟩, fun x => x.2⟩
  · rw [if_neg h]; congr 1; symm; exact decide_eq_false (fun x => h x.1)
theorem pick_ite (p : Prop) [Decidable p] (x y : Option Bool) : (if decide p = true then x else y) = if p then x else y := by by_cases h : p <;> simp [h]
theorem Good_eq (t n l m : Int) : plane_Good.f t n l m = some (decide (GoodP t n l m)) := by
  unfold plane_Good.f GoodP
  simp only [within_eq, Option.bind_some, pick_ite]
  by_cases h1 : 0 ≤ t ∧ t ≤ 1099511627776
  · rw [if_pos h1]
    by_cases h2 : 1 ≤ l ∧ l ≤ 1048576
    · rw [if_pos h2]
      by_cases h3 : 0 ≤ n ∧ n ≤ 31
      · rw [if_pos h3]; congr 1; apply decide_eq_decide.mpr
        unfold wrap64; omega
      · rw [if_neg h3]; congr 1; symm; apply decide_eq_false; omega
    · rw [if_neg h2]; congr 1; symm; apply decide_eq_false; omega
  · rw [if_neg h1]; congr 1; symm; apply decide_eq_false; omega
/-- Two boxes that may be, and have something in common. -/
def MeetP (a b c d x y z t : Int) : Prop := GoodP a b c d ∧ GoodP x y z t ∧ a < x + z ∧ x < a + c ∧ b < y + t ∧ y < b + d
instance (a b c d x y z t : Int) : Decidable (MeetP a b c d x y z t) := by unfold MeetP; infer_instance
theorem pick_ite' {α : Type} (p : Prop) [Decidable p] (x y : Option α) : (if decide p = true then x else y) = if p then x else y := by by_cases h : p <;> simp [h]
theorem Meets_eq (a b c d x y z t : Int) : plane_Meets.f a b c d x y z t = some (decide (MeetP a b c d x y z t)) := by
  unfold plane_Meets.f MeetP
  simp only [Good_eq, Option.bind_some, pick_ite]
  by_cases h1 : GoodP a b c d
  · rw [if_pos h1]
    by_cases h2 : GoodP x y z t
    · rw [if_pos h2]; congr 1; unfold meetB
      rw [← Bool.decide_and, ← Bool.decide_and, ← Bool.decide_and]
      apply decide_eq_decide.mpr
      constructor
      · intro h; refine ⟨h1, h2, ?_⟩; omega
      · intro h; omega
    · rw [if_neg h2]; congr 1; symm; apply decide_eq_false; exact fun h => h2 h.2.1
  · rw [if_neg h1]; congr 1; symm; apply decide_eq_false; exact fun h => h1 h.1
theorem Area_eq (a b c d : Int) : plane_Area.f a b c d = some (if GoodP a b c d then c * d else 0) := by
  unfold plane_Area.f
  simp only [Good_eq, Option.bind_some]
  by_cases h : GoodP a b c d <;> simp [h]
theorem MeetP_comm (a b c d x y z t : Int) : MeetP a b c d x y z t ↔ MeetP x y z t a b c d := by
  unfold MeetP; constructor <;> (rintro ⟨h1, h2, h3, h4, h5, h6⟩; exact ⟨h2, h1, h4, h3, h6, h5⟩)
theorem awake_60 : prebendlaw02_awake.f 60 = some true := by decide +kernel

theorem and_one (x : Int) : Go.bits .and .i64 x 1 = 0 ∨ Go.bits .and .i64 x 1 = 1 := by
  have h : (BitVec.ofInt 64 x &&& BitVec.ofInt 64 1).toNat = (BitVec.ofInt 64 x).toNat % 2 := by
    rw [BitVec.toNat_and]; exact Nat.and_one_is_mod _
  have e : Go.bits .and .i64 x 1 = IntKind.i64.wrap (((BitVec.ofInt 64 x).toNat % 2 : Nat) : Int) := by
    rw [← h]; rfl
  rw [e, IntKind.wrap_i64]
  omega
theorem bit01 (m n : Int) : bitOf m n = 0 ∨ bitOf m n = 1 := and_one _
theorem u64_small (n : Int) (h0 : 0 ≤ n) (h1 : n < 64) : IntKind.u64.wrap n = n := by
  simp [IntKind.wrap, IntKind.bits, IntKind.signed]; omega
theorem w64_small (n : Int) (h0 : -64 ≤ n) (h1 : n < 4398046511104) : wrap64 n = n := by unfold wrap64; omega
/-- Up over equal bits. -/
theorem up_spec (m t : Int) : ∀ d n k : Nat, n + d = 32 → d < k → ∃ p : Nat, plane_Rows.up k t m (n : Int) = some (p : Int) ∧ n ≤ p ∧ p ≤ 32 ∧ (∀ i : Nat, n ≤ i → i < p → bitOf m i = t) ∧ (p < 32 → bitOf m p ≠ t) := by
  intro d
  induction d with
  | zero =>
    intro n k hn hk
    obtain ⟨k, rfl⟩ : ∃ j, k = j + 1 := ⟨k - 1, by omega⟩
    simp only [plane_Rows.up]
    rw [if_neg (by omega)]
    exact ⟨n, rfl, Nat.le_refl _, by omega, fun i a b => by omega, fun h => by omega⟩
  | succ d ih =>
    intro n k hn hk
    obtain ⟨k, rfl⟩ : ∃ j, k = j + 1 := ⟨k - 1, by omega⟩
    simp only [plane_Rows.up]
    rw [if_pos (by omega)]
    by_cases h : bitOf m n = t
    · rw [if_pos h]
      obtain ⟨p, e, h1, h2, h3, h4⟩ := ih (n + 1) k (by omega) (by omega)
      refine ⟨p, by rw [← e]; rfl, by omega, h2, ?_, h4⟩
      intro i a b
      by_cases hi : i = n
      · subst hi; exact h
      · exact h3 i (by omega) b
    · rw [if_neg h]
      exact ⟨n, rfl, Nat.le_refl _, by omega, fun i a b => by omega, fun _ => h⟩
/-- The document's loop, a node without. -/
theorem ref_zero (k : Nat) (a b m : Int) (out : List S23) (n : Nat) (hn : n < 32) (hb : bitOf m n = 0) : prebendref02_Rows.l0 (k + 1) a b m out (n : Int) = prebendref02_Rows.l0 k a b m out ((n + 1 : Nat) : Int) := by
  unfold bitOf at hb
  conv => lhs; simp only [prebendref02_Rows.l0]
  rw [if_pos (by omega), u64_small _ (by omega) (by omega), if_pos (by omega), if_pos hb, w64_small _ (by omega) (by omega)]
  rfl
/-- The document's loop, the first node of a row. -/
theorem ref_first (k : Nat) (a b m : Int) (out : List S23) (n : Nat) (hn : n < 32) (hb : bitOf m n = 1) (hp : n = 0 ∨ bitOf m ((n - 1 : Nat) : Int) = 0) (hl : out.length < 4398046511104) : prebendref02_Rows.l0 (k + 1) a b m out (n : Int) = prebendref02_Rows.l0 k a b m (out ++ [(⟨a, n, b, 1⟩ : S23)]) ((n + 1 : Nat) : Int) := by
  unfold bitOf at hb hp
  conv => lhs; simp only [prebendref02_Rows.l0]
  rw [if_pos (by omega), u64_small _ (by omega) (by omega), if_pos (by omega), hb, if_neg (by omega), w64_small ((n : Int) + 1) (by omega) (by omega)]
  by_cases h0 : n = 0
  · rw [if_neg (by omega), if_pos hl] <;> rfl
  · have e : wrap64 ((n : Int) - 1) = ((n - 1 : Nat) : Int) := by rw [w64_small _ (by omega) (by omega)]; omega
    have hq := hp.resolve_left h0
    rw [if_pos (by omega), e, u64_small _ (by omega) (by omega), if_pos (by omega), hq, if_neg (by omega), if_pos hl] <;> rfl
/-- The document's loop, a further node of a row. -/
theorem ref_more (k : Nat) (a b m : Int) (o : List S23) (x : S23) (n : Nat) (hn : n < 32) (h0 : 0 < n) (hb : bitOf m n = 1) (hp : bitOf m ((n - 1 : Nat) : Int) = 1) (hl : o.length < 1000) : prebendref02_Rows.l0 (k + 1) a b m (o ++ [x]) (n : Int) = prebendref02_Rows.l0 k a b m (o ++ [(⟨x.f0, x.f1, x.f2, wrap64 (x.f3 + 1)⟩ : S23)]) ((n + 1 : Nat) : Int) := by
  unfold bitOf at hb hp
  conv => lhs; simp only [prebendref02_Rows.l0]
  have e : wrap64 ((n : Int) - 1) = ((n - 1 : Nat) : Int) := by rw [w64_small _ (by omega) (by omega)]; omega
  have el : wrap64 (((o ++ [x]).length : Int) - 1) = (o.length : Int) := by rw [List.length_append, List.length_singleton, w64_small _ (by omega) (by omega)]; omega
  have er : rd_T23 (o ++ [x]) (o.length : Int) = x := by simp [rd_T23]
  rw [if_pos (by omega), u64_small _ (by omega) (by omega), if_pos (by omega), hb, if_neg (by omega), w64_small ((n : Int) + 1) (by omega) (by omega), if_pos (by omega), e, u64_small _ (by omega) (by omega), if_pos (by omega), hp, if_pos rfl, el, if_pos (by omega), if_pos (by simp; omega), er]
  simp
/-- Over nodes without. -/
theorem ref_zeros (a b m : Int) (out : List S23) : ∀ d n k : Nat, n + d ≤ 32 → (∀ i : Nat, n ≤ i → i < n + d → bitOf m i = 0) → prebendref02_Rows.l0 (k + d) a b m out (n : Int) = prebendref02_Rows.l0 k a b m out ((n + d : Nat) : Int) := by
  intro d
  induction d with
  | zero => intro n k _ _; rfl
  | succ d ih =>
    intro n k hn h
    rw [show k + (d + 1) = (k + d) + 1 from rfl, ref_zero _ _ _ _ _ n (by omega) (h n (by omega) (by omega)), ih (n + 1) k (by omega) (fun i x y => h i (by omega) (by omega))]
    congr 2; omega
/-- Over the further nodes of a row. -/
theorem ref_ones (a b m : Int) (o : List S23) (x y z : Int) (hl : o.length < 1000) : ∀ d n k : Nat, ∀ c : Int, n + d ≤ 32 → 0 < n → 0 ≤ c → c + d < 1000 → (∀ i : Nat, n - 1 ≤ i → i < n + d → bitOf m i = 1) → prebendref02_Rows.l0 (k + d) a b m (o ++ [(⟨x, y, z, c⟩ : S23)]) (n : Int) = prebendref02_Rows.l0 k a b m (o ++ [(⟨x, y, z, c + d⟩ : S23)]) ((n + d : Nat) : Int) := by
  intro d
  induction d with
  | zero => intro n k c _ _ _ _ _; simp
  | succ d ih =>
    intro n k c hn h0 hc hc2 h
    rw [show k + (d + 1) = (k + d) + 1 from rfl, ref_more _ _ _ _ _ _ n (by omega) h0 (h n (by omega) (by omega)) (h (n - 1) (by omega) (by omega)) hl, w64_small _ (by simp; omega) (by simp; omega)]
    simp only []
    rw [ih (n + 1) k (c + 1) (by omega) (by omega) (by omega) (by omega) (fun i p q => h i (by omega) (by omega)), show c + 1 + (d : Int) = c + ((d + 1 : Nat) : Int) by omega, show n + 1 + d = n + (d + 1) by omega]
/-- Where no row goes on: both ways tell the same. -/
theorem rows_same (a b m : Int) : ∀ k n : Nat, ∀ out : List S23, n ≤ 32 → 33 - n ≤ k → out.length + (33 - n) ≤ 40 → (n = 0 ∨ n = 32 ∨ bitOf m ((n - 1 : Nat) : Int) = 0 ∨ bitOf m n = 0) →
    ∃ r : List S23, r.length ≤ 40 ∧ plane_Rows.l k a b m out (n : Int) = some r ∧ ∀ j, prebendref02_Rows.l0 (j + (33 - n)) a b m out (n : Int) = some r := by
  intro k
  induction k with
  | zero => intro n out h1 h2; omega
  | succ k ih =>
    intro n out h1 h2 hl hc
    obtain ⟨p, e, p1, p2, p3, p4⟩ := up_spec m 0 (32 - n) n 40 (by omega) (by omega)
    simp only [plane_Rows.l]
    rw [show plane_Rows.up 40 0 m (n : Int) = some (p : Int) from e, Option.bind_some]
    have hz : ∀ j, prebendref02_Rows.l0 (j + (33 - n)) a b m out (n : Int) = prebendref02_Rows.l0 (j + (33 - p)) a b m out (p : Int) := by
      intro j
      have := ref_zeros a b m out (p - n) n (j + (33 - p)) (by omega) (fun i x y => p3 i x (by omega))
      rw [show j + (33 - p) + (p - n) = j + (33 - n) by omega, show n + (p - n) = p by omega] at this
      exact this
    by_cases hp : p = 32
    · subst hp
      rw [if_pos (show ((32 : Nat) : Int) = 32 from rfl)]
      refine ⟨out, by omega, rfl, fun j => ?_⟩
      rw [hz j]
      show prebendref02_Rows.l0 (j + 1) a b m out 32 = _
      simp only [prebendref02_Rows.l0]
      rw [if_neg (by omega)]
    · rw [if_neg (by omega)]
      have hp1 : bitOf m p = 1 := (bit01 m p).resolve_left (p4 (by omega))
      have hprev : p = 0 ∨ bitOf m ((p - 1 : Nat) : Int) = 0 := by
        by_cases hpn : p = n
        · subst hpn
          rcases hc with h | h | h | h
          · exact .inl h
          · exact absurd h hp
          · exact .inr h
          · rw [hp1] at h; omega
        · exact .inr (p3 (p - 1) (by omega) (by omega))
      obtain ⟨q, e2, q1, q2, q3, q4⟩ := up_spec m 1 (32 - p) p 40 (by omega) (by omega)
      rw [show plane_Rows.up 40 1 m (p : Int) = some (q : Int) from e2, Option.bind_some]
      have hqp : p < q := by
        by_cases hq : q = p
        · exact absurd hp1 (by have := q4 (by omega); rw [hq] at this; exact this)
        · omega
      obtain ⟨r, r1, r2, r3⟩ := ih q (out ++ [(⟨a, p, b, (q : Int) - p⟩ : S23)]) q2 (by omega) (by simp; omega) (by
        by_cases h32 : q = 32
        · exact .inr (.inl h32)
        · exact .inr (.inr (.inr ((bit01 m q).resolve_right (q4 (by omega))))))
      refine ⟨r, r1, r2, fun j => ?_⟩
      rw [hz j, show j + (33 - p) = (j + (32 - p)) + 1 by omega, ref_first _ a b m out p (by omega) hp1 hprev (by omega)]
      have ho := ref_ones a b m out a p b (by omega) (q - (p + 1)) (p + 1) (j + (33 - q)) 1 (by omega) (by omega) (by omega) (by omega) (fun i x y => q3 i (by omega) (by omega))
      rw [show j + (33 - q) + (q - (p + 1)) = j + (32 - p) by omega, show p + 1 + (q - (p + 1)) = q by omega, show (1 : Int) + ((q - (p + 1) : Nat) : Int) = (q : Int) - p by omega] at ho
      rw [ho]
      exact r3 j
theorem boxes_same (L : List S23) (hl : L.length ≤ 40) : ∀ d i k : Nat, i + d = L.length → d + 1 ≤ k → prebendref02_Boxes.l0 k L L (i : Int) = some true := by
  intro d
  induction d with
  | zero =>
    intro i k hi hk
    obtain ⟨k, rfl⟩ : ∃ j, k = j + 1 := ⟨k - 1, by omega⟩
    simp only [prebendref02_Boxes.l0]
    rw [if_neg (by omega)]
  | succ d ih =>
    intro i k hi hk
    obtain ⟨k, rfl⟩ : ∃ j, k = j + 1 := ⟨k - 1, by omega⟩
    simp only [prebendref02_Boxes.l0]
    rw [if_pos (by omega), if_pos (by omega), if_pos (by omega), if_neg (by simp), w64_small _ (by omega) (by omega)]
    exact ih (i + 1) k (by omega) (by omega)
theorem Boxes_eq (L : List S23) (hl : L.length ≤ 40) (k : Nat) (hk : 41 ≤ k) : prebendref02_Boxes.f k L L = some true := by
  unfold prebendref02_Boxes.f
  rw [if_pos rfl]
  exact boxes_same L hl L.length 0 k (by omega) (by omega)
/-- The rows of a tick and a length that may be. -/
theorem Rows_eq (a b m : Int) : ∃ r : List S23, r.length ≤ 40 ∧ plane_Rows.f a b m = some r ∧ ∀ k, 40 ≤ k → prebendref02_Rows.f k a b m = some r := by
  unfold plane_Rows.f prebendref02_Rows.f
  simp only [Good_eq, in_eq, Option.bind_some]
  by_cases h : GoodP a 0 b 1
  · have h' := h
    unfold GoodP at h'
    obtain ⟨r, r1, r2, r3⟩ := rows_same a b m 40 0 [] (by omega) (by omega) (by simp) (.inl rfl)
    refine ⟨r, r1, by rw [if_pos (decide_eq_true h)]; exact r2, ?_⟩
    intro k hk
    obtain ⟨k, rfl⟩ : ∃ j, k = (j + (33 - 0)) + 1 := ⟨k - 34, by omega⟩
    rw [if_pos (decide_eq_true (show 0 ≤ a ∧ a ≤ 1099511627776 from ⟨h'.1, h'.2.1⟩)), decide_eq_true (show 1 ≤ b ∧ b ≤ 1048576 from ⟨h'.2.2.1, h'.2.2.2.1⟩)]
    rw [prebendref02_Rows.j0, if_neg (by simp)]
    exact r3 k
  · refine ⟨[], by simp, by rw [if_neg (by simpa using h)], ?_⟩
    intro k hk
    obtain ⟨k, rfl⟩ : ∃ j, k = j + 1 := ⟨k - 1, by omega⟩
    unfold GoodP at h
    by_cases h1 : 0 ≤ a ∧ a ≤ 1099511627776
    · rw [if_pos (decide_eq_true h1), decide_eq_false (show ¬ (1 ≤ b ∧ b ≤ 1048576) by omega), prebendref02_Rows.j0, if_pos (by simp)]
    · rw [if_neg (by simpa using h1), prebendref02_Rows.j0, if_pos rfl]

theorem PlaneRows : prebendlaw02_PlaneRows.Pure := by
  intro a b m _ _ _
  refine ⟨60, ?_⟩
  unfold prebendlaw02_PlaneRows.f
  obtain ⟨r, h1, h2, h3⟩ := Rows_eq a b m
  rw [awake_60, Option.bind_some, if_pos rfl, h2, Option.bind_some, h3 60 (by omega), Option.bind_some, Boxes_eq r h1 60 (by omega), Option.bind_some]

end Go.Proofs.Ytokljfnicijheab.Pure
