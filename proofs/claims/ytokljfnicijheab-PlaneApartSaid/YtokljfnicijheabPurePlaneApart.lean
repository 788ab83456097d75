/- Whether no two of any boxes meet: the same as the document's answer, for every list. -/
import Derived.Test.YtokljfnicijheabPAllx19
import Derived.Laws.BitsLemmas
set_option linter.unusedVariables false
set_option linter.unusedSimpArgs false
namespace Go.Proofs.Ytokljfnicijheab.Pure
open Go Go.RowKit Go.Proofs.Ytokljfnicijheab.PAll Go.Proofs.YtokljfnicijheabW.PrintWords Go.Proofs.YtokljfnicijheabW.PrintLast

/-- What a box must be. -/
def GoodP (t n l m : Int) : Prop := 0 ≤ t ∧ t ≤ 1099511627776 ∧ 1 ≤ l ∧ l ≤ 1048576 ∧ 0 ≤ n ∧ n ≤ 31 ∧ 1 ≤ m ∧ n + m ≤ 32
instance (t n l m : Int) : Decidable (GoodP t n l m) := by unfold GoodP; infer_instance
theorem within_eq (a b c : Int) : plane_within.f a b c = some (decide (b ≤ a ∧ a ≤ c)) := by
  unfold plane_within.f; by_cases h : a ≥ b
  · rw [if_pos h]; congr 1; exact decide_eq_decide.mpr ⟨fun x => ⟨h, x⟩, fun x => x.2⟩
  · rw [if_neg h]; congr 1; symm; exact decide_eq_false (fun x => h x.1)
theorem in_eq (a b c : Int) : prebendref02_in.f a b c = some (decide (b ≤ a ∧ a ≤ c)) := by
  unfold prebendref02_in.f; by_cases h : a ≥ b
  · rw [if_pos h]; congr 1; exact decide_eq_decide.mpr ⟨fun x => ⟨h, x⟩, fun x => x.2⟩
  · rw [if_neg h]; congr 1; symm; exact decide_eq_false (fun x => h x.1)
theorem pick_ite (p : Prop) [Decidable p] (x y : Option Bool) : (if decide p = true then x else y) = if p then x else y := by by_cases h : p <;> simp [h]
theorem Good_eq (t n l m : Int) : plane_Good.f t n l m = some (decide (GoodP t n l m)) := by
  unfold plane_Good.f GoodP
  simp only [within_eq, Option.bind_some, pick_ite]
  by_cases h1 : 0 ≤ t ∧ t ≤ 1099511627776
  · rw [if_pos h1]
    by_cases h2 : 1 ≤ l ∧ l ≤ 1048576
    · rw [if_pos h2]
      by_cases h3 : 0 ≤ n ∧ n ≤ 31
      · rw [if_pos h3]; congr 1; apply decide_eq_decide.mpr
        unfold wrap64; omega
      · rw [if_neg h3]; congr 1; symm; apply decide_eq_false; omega
    · rw [if_neg h2]; congr 1; symm; apply decide_eq_false; omega
  · rw [if_neg h1]; congr 1; symm; apply decide_eq_false; omega
theorem rGood_eq (t n l m : Int) : prebendref02_Good.f t n l m = some (decide (GoodP t n l m)) := by
  unfold prebendref02_Good.f GoodP
  simp only [in_eq, Option.bind_some, pick_ite]
  by_cases h1 : 0 ≤ t ∧ t ≤ 1099511627776
  · rw [if_pos h1]
    by_cases h2 : 1 ≤ l ∧ l ≤ 1048576
    · rw [if_pos h2]
      by_cases h3 : 0 ≤ n ∧ n ≤ 31
      · rw [if_pos h3]
        by_cases h4 : 1 ≤ m ∧ m ≤ 32
        · rw [if_pos h4]; congr 1; apply decide_eq_decide.mpr
          unfold wrap64; omega
        · rw [if_neg h4]; congr 1; symm; apply decide_eq_false; omega
      · rw [if_neg h3]; congr 1; symm; apply decide_eq_false; omega
    · rw [if_neg h2]; congr 1; symm; apply decide_eq_false; omega
  · rw [if_neg h1]; congr 1; symm; apply decide_eq_false; omega
/-- Two boxes that may be, and have something in common. -/
def MeetP (a b c d x y z t : Int) : Prop := GoodP a b c d ∧ GoodP x y z t ∧ a < x + z ∧ x < a + c ∧ b < y + t ∧ y < b + d
instance (a b c d x y z t : Int) : Decidable (MeetP a b c d x y z t) := by unfold MeetP; infer_instance
theorem pick_ite' {α : Type} (p : Prop) [Decidable p] (x y : Option α) : (if decide p = true then x else y) = if p then x else y := by by_cases h : p <;> simp [h]
theorem Meets_eq (a b c d x y z t : Int) : plane_Meets.f a b c d x y z t = some (decide (MeetP a b c d x y z t)) := by
  unfold plane_Meets.f MeetP
  simp only [Good_eq, Option.bind_some, pick_ite]
  by_cases h1 : GoodP a b c d
  · rw [if_pos h1]
    by_cases h2 : GoodP x y z t
    · rw [if_pos h2]; congr 1; unfold meetB
      rw [← Bool.decide_and, ← Bool.decide_and, ← Bool.decide_and]
      apply decide_eq_decide.mpr
      constructor
      · intro h; refine ⟨h1, h2, ?_⟩; omega
      · intro h; omega
    · rw [if_neg h2]; congr 1; symm; apply decide_eq_false; exact fun h => h2 h.2.1
  · rw [if_neg h1]; congr 1; symm; apply decide_eq_false; exact fun h => h1 h.1
theorem rMeets_eq (a b c d x y z t : Int) : prebendref02_Meets.f a b c d x y z t = some (decide (MeetP a b c d x y z t)) := by
  unfold prebendref02_Meets.f
  simp only [rGood_eq, Option.bind_some, pick_ite]
  by_cases h : GoodP a b c d ∧ GoodP x y z t
  · obtain ⟨h1, h2⟩ := h
    have w1 : wrap64 (x + z) = x + z := by unfold GoodP at h2; unfold wrap64; omega
    have w2 : wrap64 (y + t) = y + t := by unfold GoodP at h2; unfold wrap64; omega
    have w3 : wrap64 (a + c) = a + c := by unfold GoodP at h1; unfold wrap64; omega
    have w4 : wrap64 (b + d) = b + d := by unfold GoodP at h1; unfold wrap64; omega
    simp only [w1, w2, w3, w4, if_pos h1, if_pos h2]
    unfold MeetP
    by_cases c1 : a < x + z <;> by_cases c2 : b < y + t <;> by_cases c3 : x < a + c <;> by_cases c4 : y < b + d <;> simp [c1, c2, c3, c4, h1, h2]
  · have hn : ¬ MeetP a b c d x y z t := fun q => h ⟨q.1, q.2.1⟩
    rw [decide_eq_false hn]
    by_cases h1 : GoodP a b c d
    · have h2 : ¬ GoodP x y z t := fun q => h ⟨h1, q⟩
      simp only [if_pos h1, if_neg h2]
      repeat' split
      all_goals rfl
    · simp only [if_neg h1]
      repeat' split
      all_goals rfl
theorem Area_eq (a b c d : Int) : plane_Area.f a b c d = some (if GoodP a b c d then c * d else 0) := by
  unfold plane_Area.f
  simp only [Good_eq, Option.bind_some]
  by_cases h : GoodP a b c d <;> simp [h]
theorem MeetP_comm (a b c d x y z t : Int) : MeetP a b c d x y z t ↔ MeetP x y z t a b c d := by
  unfold MeetP; constructor <;> (rintro ⟨h1, h2, h3, h4, h5, h6⟩; exact ⟨h2, h1, h4, h3, h6, h5⟩)
theorem awake_60 : prebendlaw02_awake.f 60 = some true := by decide +kernel

/-- The box at a place. -/
def bx (L : List S23) (i : Nat) : S23 := L.getD i z23
def gd (x : S23) : Prop := GoodP x.f0 x.f1 x.f2 x.f3
def mt (x y : S23) : Prop := MeetP x.f0 x.f1 x.f2 x.f3 y.f0 y.f1 y.f2 y.f3
theorem mt_comm (x y : S23) : mt x y ↔ mt y x := MeetP_comm _ _ _ _ _ _ _ _
theorem rd_nat (L : List S23) (i : Nat) : rd_T23 L (i : Int) = bx L i := by simp [rd_T23, bx]
theorem bx_take (L : List S23) (i j : Nat) (h : j < i) : bx (L.take i) j = bx L j := by
  unfold bx; simp [List.getD, List.getElem?_take, h]
/-- From a place on: all may be, and none meets one before it. -/
def PlA (L : List S23) (i : Nat) : Prop := ∀ p, i ≤ p → p < L.length → gd (bx L p) ∧ ∀ q, q < p → ¬ mt (bx L p) (bx L q)
/-- From a place on: all may be, and none meets one behind it. -/
def PlR (L : List S23) (i : Nat) : Prop := ∀ p, i ≤ p → p < L.length → gd (bx L p) ∧ ∀ q, p < q → q < L.length → ¬ mt (bx L p) (bx L q)
open Classical in
theorem apart_in (L : List S23) (i d : Nat) (hi : i + d = L.length) (hd : 0 < d) (hn : L.length ≤ 60)
    (ih : ∀ k, (d - 1) * 70 + 1 ≤ k → plane_Apart.l0 k L L (L.length : Int) ((i + 1 : Nat) : Int) = some (decide (PlA L (i + 1)))) :
    ∀ c j k, j + c = i → c + 1 + ((d - 1) * 70 + 1) ≤ k → plane_Apart.l1 k L L (L.length : Int) (i : Int) (L.take i) (i : Int) (j : Int) (bx L i).f0 (bx L i).f1 (bx L i).f2 (bx L i).f3 = some (decide ((∀ q, j ≤ q → q < i → ¬ mt (bx L i) (bx L q)) ∧ PlA L (i + 1))) := by
  intro c
  induction c with
  | zero =>
    intro j k hj hk
    obtain ⟨k, rfl⟩ : ∃ m, k = m + 1 := ⟨k - 1, by omega⟩
    simp only [plane_Apart.l1]
    rw [if_neg (by omega), show wrap64 ((i : Int) + 1) = ((i + 1 : Nat) : Int) by unfold wrap64; omega, ih k (by omega)]
    congr 1; apply decide_eq_decide.mpr
    exact ⟨fun h => ⟨fun q h1 h2 => by omega, h⟩, fun h => h.2⟩
  | succ c ihc =>
    intro j k hj hk
    obtain ⟨k, rfl⟩ : ∃ m, k = m + 1 := ⟨k - 1, by omega⟩
    simp only [plane_Apart.l1]
    rw [if_pos (by omega), if_pos (by omega), if_pos (by rw [List.length_take]; omega), rd_nat, bx_take L i j (by omega), Meets_eq]
    simp only [Option.bind_some]
    by_cases hm : mt (bx L i) (bx L j)
    · have hm' := hm
      unfold mt at hm'
      rw [if_pos (decide_eq_true hm')]
      congr 1; symm; apply decide_eq_false
      exact fun h => h.1 j (Nat.le_refl _) (by omega) hm
    · have hm' := hm
      unfold mt at hm'
      rw [if_neg (by simpa using hm'), show wrap64 ((j : Int) + 1) = ((j + 1 : Nat) : Int) by unfold wrap64; omega, ihc (j + 1) k (by omega) (by omega)]
      congr 1; apply decide_eq_decide.mpr
      constructor
      · rintro ⟨h1, h2⟩
        refine ⟨fun q a b => ?_, h2⟩
        by_cases e : q = j
        · subst e; exact hm
        · exact h1 q (by omega) b
      · rintro ⟨h1, h2⟩
        exact ⟨fun q a b => h1 q (by omega) b, h2⟩
open Classical in
theorem apart_out (L : List S23) (hn : L.length ≤ 60) : ∀ d i k, i + d = L.length → d * 70 + 1 ≤ k → plane_Apart.l0 k L L (L.length : Int) (i : Int) = some (decide (PlA L i)) := by
  intro d
  induction d with
  | zero =>
    intro i k hi hk
    obtain ⟨k, rfl⟩ : ∃ m, k = m + 1 := ⟨k - 1, by omega⟩
    simp only [plane_Apart.l0]
    rw [if_neg (by omega)]
    congr 1; symm; apply decide_eq_true
    intro p h1 h2; omega
  | succ d ih =>
    intro i k hi hk
    obtain ⟨k, rfl⟩ : ∃ m, k = m + 1 := ⟨k - 1, by omega⟩
    simp only [plane_Apart.l0]
    rw [if_pos (by omega), if_pos (by omega), if_pos (by omega), rd_nat, Good_eq]
    simp only [Option.bind_some]
    by_cases hg : gd (bx L i)
    · have hg' := hg
      unfold gd at hg'
      rw [if_pos (decide_eq_true hg'), if_pos (by omega)]
      have e1 : ((L.take (i : Int).toNat).length : Int) = (i : Int) := by rw [List.length_take]; omega
      rw [e1, show ((i : Int)).toNat = i from rfl, show ((0 : Int)) = ((0 : Nat) : Int) from rfl, apart_in L i (d + 1) hi (by omega) hn (fun k' hk' => ih (i + 1) k' (by omega) (by omega)) i 0 k (by omega) (by omega)]
      congr 1; apply decide_eq_decide.mpr
      constructor
      · rintro ⟨h1, h2⟩ p a b
        by_cases e : p = i
        · subst e; exact ⟨hg, fun q hq => h1 q (by omega) hq⟩
        · exact h2 p (by omega) b
      · intro h
        exact ⟨fun q _ hq => (h i (Nat.le_refl _) (by omega)).2 q hq, fun p a b => h p (by omega) b⟩
    · have hg' := hg
      unfold gd at hg'
      rw [if_neg (by simpa using hg')]
      congr 1; symm; apply decide_eq_false
      exact fun h => hg (h i (Nat.le_refl _) (by omega)).1
open Classical in
theorem rapart_in (L : List S23) (i d : Nat) (hi : i + d = L.length) (hd : 0 < d) (hn : L.length ≤ 60)
    (ih : ∀ k, (d - 1) * 70 + 1 ≤ k → prebendref02_Apart.l0 k L ((i + 1 : Nat) : Int) = some (decide (PlR L (i + 1)))) :
    ∀ c j k, i < j → j + c = L.length → c + 1 + ((d - 1) * 70 + 1) ≤ k → prebendref02_Apart.l1 k L (i : Int) (j : Int) = some (decide ((∀ q, j ≤ q → q < L.length → ¬ mt (bx L i) (bx L q)) ∧ PlR L (i + 1))) := by
  intro c
  induction c with
  | zero =>
    intro j k hij hj hk
    obtain ⟨k, rfl⟩ : ∃ m, k = m + 1 := ⟨k - 1, by omega⟩
    simp only [prebendref02_Apart.l1]
    rw [if_neg (by omega), show wrap64 ((i : Int) + 1) = ((i + 1 : Nat) : Int) by unfold wrap64; omega, ih k (by omega)]
    congr 1; apply decide_eq_decide.mpr
    exact ⟨fun h => ⟨fun q h1 h2 => by omega, h⟩, fun h => h.2⟩
  | succ c ihc =>
    intro j k hij hj hk
    obtain ⟨k, rfl⟩ : ∃ m, k = m + 1 := ⟨k - 1, by omega⟩
    simp only [prebendref02_Apart.l1]
    rw [if_pos (by omega), if_pos (by omega), if_pos (by omega), if_pos (by omega), rd_nat, rd_nat, rMeets_eq]
    simp only [Option.bind_some]
    by_cases hm : mt (bx L i) (bx L j)
    · have hm' := hm
      unfold mt at hm'
      rw [if_pos (decide_eq_true hm')]
      congr 1; symm; apply decide_eq_false
      exact fun h => h.1 j (Nat.le_refl _) (by omega) hm
    · have hm' := hm
      unfold mt at hm'
      rw [if_neg (by simpa using hm'), show wrap64 ((j : Int) + 1) = ((j + 1 : Nat) : Int) by unfold wrap64; omega, ihc (j + 1) k (by omega) (by omega) (by omega)]
      congr 1; apply decide_eq_decide.mpr
      constructor
      · rintro ⟨h1, h2⟩
        refine ⟨fun q a b => ?_, h2⟩
        by_cases e : q = j
        · subst e; exact hm
        · exact h1 q (by omega) b
      · rintro ⟨h1, h2⟩
        exact ⟨fun q a b => h1 q (by omega) b, h2⟩
open Classical in
theorem rapart_out (L : List S23) (hn : L.length ≤ 60) : ∀ d i k, i + d = L.length → d * 70 + 1 ≤ k → prebendref02_Apart.l0 k L (i : Int) = some (decide (PlR L i)) := by
  intro d
  induction d with
  | zero =>
    intro i k hi hk
    obtain ⟨k, rfl⟩ : ∃ m, k = m + 1 := ⟨k - 1, by omega⟩
    simp only [prebendref02_Apart.l0]
    rw [if_neg (by omega)]
    congr 1; symm; apply decide_eq_true
    intro p h1 h2; omega
  | succ d ih =>
    intro i k hi hk
    obtain ⟨k, rfl⟩ : ∃ m, k = m + 1 := ⟨k - 1, by omega⟩
    simp only [prebendref02_Apart.l0]
    rw [if_pos (by omega), if_pos (by omega), rd_nat, rGood_eq]
    simp only [Option.bind_some]
    by_cases hg : gd (bx L i)
    · have hg' := hg
      unfold gd at hg'
      rw [if_pos (decide_eq_true hg'), show wrap64 ((i : Int) + 1) = ((i + 1 : Nat) : Int) by unfold wrap64; omega, rapart_in L i (d + 1) hi (by omega) hn (fun k' hk' => ih (i + 1) k' (by omega) (by omega)) d (i + 1) k (by omega) (by omega) (by omega)]
      congr 1; apply decide_eq_decide.mpr
      constructor
      · rintro ⟨h1, h2⟩ p a b
        by_cases e : p = i
        · subst e; exact ⟨hg, fun q hq hq2 => h1 q (by omega) hq2⟩
        · exact h2 p (by omega) b
      · intro h
        exact ⟨fun q a hq => (h i (Nat.le_refl _) (by omega)).2 q (by omega) hq, fun p a b => h p (by omega) b⟩
    · have hg' := hg
      unfold gd at hg'
      rw [if_neg (by simpa using hg')]
      congr 1; symm; apply decide_eq_false
      exact fun h => hg (h i (Nat.le_refl _) (by omega)).1
theorem PlA_R (L : List S23) : PlA L 0 ↔ PlR L 0 := by
  constructor
  · intro h p _ hp
    exact ⟨(h p (by omega) hp).1, fun q h1 h2 hm => (h q (by omega) h2).2 p h1 ((mt_comm _ _).1 hm)⟩
  · intro h p _ hp
    exact ⟨(h p (by omega) hp).1, fun q h1 hm => (h q (by omega) (by omega)).2 p h1 hp ((mt_comm _ _).1 hm)⟩
open Classical in
theorem Apart_eq (L : List S23) (hn : L.length ≤ 60) (k : Nat) (hk : 4300 ≤ k) : plane_Apart.f k L = some (decide (PlA L 0)) := apart_out L hn L.length 0 k (by omega) (by omega)
open Classical in
theorem rApart_eq (L : List S23) (hn : L.length ≤ 60) (k : Nat) (hk : 4300 ≤ k) : prebendref02_Apart.f k L = some (decide (PlA L 0)) := by
  rw [show decide (PlA L 0) = decide (PlR L 0) from decide_eq_decide.mpr (PlA_R L)]
  exact rapart_out L hn L.length 0 k (by omega) (by omega)

theorem awake_4300 : prebendlaw02_awake.f 4300 = some true := by decide +kernel
theorem PlaneApart : prebendlaw02_PlaneApart.Pure := by
  intro L _
  refine ⟨4300, ?_⟩
  unfold prebendlaw02_PlaneApart.f
  by_cases h : (L.length : Int) > 60
  · have hl : (L.take 60).length ≤ 60 := by rw [List.length_take]; omega
    rw [if_pos h, if_pos (by omega), Option.bind_some, awake_4300]
    simp only [Option.bind_some, if_true, Apart_eq _ hl 4300 (Nat.le_refl _), rApart_eq _ hl 4300 (Nat.le_refl _), beq_self_eq_true]
  · rw [if_neg h, awake_4300]
    simp only [Option.bind_some, if_true, Apart_eq L (by omega) 4300 (Nat.le_refl _), rApart_eq L (by omega) 4300 (Nat.le_refl _), beq_self_eq_true]

end Go.Proofs.Ytokljfnicijheab.Pure
