/- Any bytes are read as the document says: for all that a call may be handed; no conditions. -/
import Derived.Test.YtjmkpcnekghmhaaBEntryDecodes5
import Derived.Test.YtjmkpcnekghmhaaRows
import Derived.ProofKit
import Derived.OpenShut
import Derived.ShutString
import Derived.ChangeOld
section
set_option linter.unusedVariables false
set_option linter.unusedSimpArgs false
namespace Go.Proofs.Ytjmkpcnekghmhaa.Pure
open Go Go.RowKit Go.Proofs.Ytjmkpcnekghmhaa.PAll Go.Proofs.YtjmkpcnekghmhaaW.PrintWords Go.Proofs.YtjmkpcnekghmhaaW.PrintLast

/-- Where a reader stands, and where the document's reader stands. -/
def AtS (l : List Int) (at_ : Int) (s : List Int × Bool) : Prop := (at_ = -1 ∧ s.2 = true) ∨ ∃ a : Nat, at_ = (a : Int) ∧ a ≤ l.length ∧ s = (l.drop a, false)
theorem AtS.end_ {l : List Int} {at_ : Int} {s : List Int × Bool} (h : AtS l at_ s) : rEnd s = (at_ == (l.length : Int)) := by
  show rEnd s = decide (at_ = (l.length : Int))
  rcases h with ⟨rfl, h⟩ | ⟨a, rfl, h, rfl⟩
  · rw [decide_eq_false (by omega)]; simp [rEnd, h]
  · by_cases hc : a = l.length
    · subst hc; simp [rEnd]
    · rw [decide_eq_false (by omega)]; simp [rEnd]; omega
theorem u64_e (z : Int) : IntKind.u64.wrap z = z % 18446744073709551616 := rfl
theorem acc_step (u c : Int) (hc : 0 ≤ c ∧ c ≤ 255) : wrap64 (IntKind.u64.wrap ((IntKind.u64.wrap (u * 256)) + (IntKind.u64.wrap c))) = wrap64 (wrap64 u * 256 + c) := by
  rw [u64_e, u64_e, u64_e]; unfold wrap64; omega
theorem num_run {l : List Int} (hb : ∀ x ∈ l, 0 ≤ x ∧ x ≤ 255) (a : Nat) (ha : a + 8 ≤ l.length) (hl : l.length < 140737488355328) : ∀ (d j : Nat) (u : Int), j + d = 8 → ∀ k, prebendref03_Number.l0 (k + d + 1) l a u j = some (numS ((l.drop (a + j)).take d) (wrap64 u), (a : Int) + 8)
  | 0, j, u, h, k => by
    obtain rfl : j = 8 := by omega
    rw [prebendref03_Number.l0.eq_2, if_neg (by omega)]
    simp only [List.take_zero, numS]
    rw [show wrap64 ((a : Int) + 8) = (a : Int) + 8 by unfold wrap64; omega]
  | d + 1, j, u, h, k => by
    have e1 : wrap64 ((a : Int) + (j : Int)) = ((a + j : Nat) : Int) := by unfold wrap64; omega
    have e2 : wrap64 ((j : Int) + 1) = ((j + 1 : Nat) : Int) := by unfold wrap64; omega
    have hlt : a + j < l.length := by omega
    have hr : rd l ((a + j : Nat) : Int) = l[a + j] := by
      show l.getD ((a + j : Nat) : Int).toNat 0 = _
      rw [Int.toNat_natCast]; simp [List.getD_eq_getElem?_getD, hlt]
    have hc := hb _ (List.getElem_mem hlt)
    rw [show k + (d + 1) + 1 = (k + d + 1) + 1 by omega, prebendref03_Number.l0.eq_2]
    rw [if_pos (by omega), e1, e2, if_pos (by omega), if_pos (by omega), num_run hb a ha hl d (j + 1) _ (by omega) k, hr, acc_step _ _ hc, List.drop_eq_getElem_cons hlt, List.take_succ_cons, numS, or_byte _ _ hc.1 (by omega)]
    rfl
theorem number_at (k : Nat) {l : List Int} (hb : ∀ x ∈ l, 0 ≤ x ∧ x ≤ 255) (hl : l.length < 140737488355328) {at_ : Int} {s : List Int × Bool} (h : AtS l at_ s) : ∃ at1, prebendref03_Number.f (k + 10) l at_ = some ((rInt s).1, at1) ∧ AtS l at1 (rInt s).2 := by
  rcases h with ⟨rfl, h⟩ | ⟨a, rfl, h, rfl⟩
  · refine ⟨-1, ?_, .inl ⟨rfl, ?_⟩⟩
    · unfold prebendref03_Number.f; rw [if_pos (by omega), prebendref03_Number.j0.eq_2, if_pos rfl]; simp [rInt, h]
    · simp [rInt, h]
  · have e1 : wrap64 ((a : Int) + 8) = (a : Int) + 8 := by unfold wrap64; omega
    unfold prebendref03_Number.f
    rw [if_neg (by omega), e1, prebendref03_Number.j0.eq_2]
    by_cases hc : a + 8 ≤ l.length
    · rw [if_neg (by simp; omega)]
      have this : prebendref03_Number.l0 (k + 9) l a 0 0 = some (numS ((l.drop a).take 8) 0, (a : Int) + 8) := by
        have h0 : wrap64 0 = 0 := by decide +kernel
        have := num_run hb a hc hl 8 0 0 rfl k
        rw [h0, Nat.add_zero] at this
        exact this
      refine ⟨(a : Int) + 8, ?_, .inr ⟨a + 8, by simp, hc, ?_⟩⟩
      · rw [show rInt (l.drop a, false) = (numS ((l.drop a).take 8) 0, ((l.drop a).drop 8, false)) by unfold rInt; rw [if_neg (by simp; omega)]]
        exact this
      · unfold rInt; rw [if_neg (by simp; omega)]; simp [List.drop_drop]
    · rw [if_pos (by simp; omega)]
      have e : rInt (l.drop a, false) = (0, (l.drop a, true)) := by unfold rInt; rw [if_pos (by simp; omega)]
      rw [e]
      exact ⟨-1, rfl, .inl ⟨rfl, rfl⟩⟩
theorem word_at (k : Nat) {l : List Int} (hb : ∀ x ∈ l, 0 ≤ x ∧ x ≤ 255) (hl : l.length < 140737488355328) {at_ : Int} {s : List Int × Bool} (m : Int) (h : AtS l at_ s) : ∃ at1, prebendref03_Word.f (k + 1) l at_ m = some (strOfNums (rText s m).1, at1) ∧ AtS l at1 (rText s m).2 := by
  rcases h with ⟨rfl, h⟩ | ⟨a, rfl, h, rfl⟩
  · refine ⟨-1, ?_, .inl ⟨rfl, ?_⟩⟩
    · unfold prebendref03_Word.f; rw [if_pos (by omega), prebendref03_Word.j0.eq_2, if_pos rfl]; simp [rText, h]; rfl
    · simp [rText, h]
  · have e1 : wrap64 ((a : Int) + 2) = ((a + 2 : Nat) : Int) := by unfold wrap64; omega
    have e2 : wrap64 ((a : Int) + 1) = ((a + 1 : Nat) : Int) := by unfold wrap64; omega
    unfold prebendref03_Word.f
    rw [if_neg (by omega), e1, prebendref03_Word.j0.eq_2]
    by_cases hc : a + 2 ≤ l.length
    · rw [if_neg (by simp; omega), e1, e2]
      have hx := hb (rd l (a : Int)) (by simp [rd, List.getD_eq_getElem?_getD, show a < l.length by omega])
      have hy := hb (rd l ((a + 1 : Nat) : Int)) (by simp [rd, List.getD_eq_getElem?_getD, show a + 1 < l.length by omega])
      have hn : numS ((l.drop a).take 2) 0 = rd l (a : Int) * 256 + rd l ((a + 1 : Nat) : Int) := by
        rw [take_two (by simp; omega)]
        rw [show (l.drop a).getD 0 0 = rd l (a : Int) by simp [rd, List.getD_eq_getElem?_getD], show (l.drop a).getD 1 0 = rd l ((a + 1 : Nat) : Int) by simp [rd, List.getD_eq_getElem?_getD]]
        exact numS_two _ _ hx hy
      generalize hX : rd l (a : Int) = x at *
      generalize hY : rd l ((a + 1 : Nat) : Int) = y at *
      have e3 : wrap64 (wrap64 (wrap64 x * 256) + wrap64 y) = x * 256 + y := by unfold wrap64; omega
      have e4 : wrap64 (((a + 2 : Nat) : Int) + (x * 256 + y)) = ((a + 2 : Nat) : Int) + (x * 256 + y) := by unfold wrap64; omega
      have hS : rText (l.drop a, false) m = if x * 256 + y > m ∨ ((l.length - a - 2 : Nat) : Int) < x * 256 + y then ([], ((l.drop a).drop 2, true)) else (((l.drop a).drop 2).take (x * 256 + y).toNat, (((l.drop a).drop 2).drop (x * 256 + y).toNat, false)) := by
        unfold rText
        rw [if_neg (by simp; omega)]
        simp only [hn, List.length_drop]
      rw [e3, e4, if_pos (by omega), if_pos (by omega), if_pos (by omega), if_pos (by omega), hS]
      by_cases c1 : x * 256 + y > m
      · rw [if_pos c1, if_pos (.inl c1)]
        exact ⟨-1, rfl, .inl ⟨rfl, rfl⟩⟩
      · rw [if_neg c1]
        by_cases c2 : ((a + 2 : Nat) : Int) + (x * 256 + y) > (l.length : Int)
        · rw [if_pos c2, if_pos (.inr (by omega))]
          exact ⟨-1, rfl, .inl ⟨rfl, rfl⟩⟩
        · rw [if_neg c2, if_pos (by omega), if_pos (by omega), if_pos (by omega), if_neg (by omega)]
          refine ⟨_, ?_, .inr ⟨a + 2 + (x * 256 + y).toNat, rfl, by omega, ?_⟩⟩
          · rw [show ((a + 2 + (x * 256 + y).toNat : Nat) : Int) = ((a + 2 : Nat) : Int) + (x * 256 + y) by omega]
            congr 3
            rw [List.drop_take, List.drop_drop]
            congr 1 <;> omega
          · simp [List.drop_drop]
    · rw [if_pos (by simp; omega)]
      have e : rText (l.drop a, false) m = ([], (l.drop a, true)) := by unfold rText; rw [if_pos (by simp; omega)]
      rw [e]
      exact ⟨-1, rfl, .inl ⟨rfl, rfl⟩⟩

theorem rInt_bad {s : List Int × Bool} (h : s.2 = true) : rInt s = (0, (s.1, true)) := by simp [rInt, h]
theorem args_bad : ∀ (n : Nat) (s : List Int × Bool) (out : List Int), s.2 = true → (dec_args n s out).2.2 = true
  | 0, s, out, h => h
  | n + 1, s, out, h => by rw [dec_args, rInt_bad h]; exact args_bad n _ _ rfl
theorem AtS.neg {l : List Int} {a : Int} {s : List Int × Bool} (h : AtS l a s) : (s.2 = true ↔ a < 0) := by
  rcases h with ⟨rfl, h⟩ | ⟨b, rfl, _, rfl⟩
  · simp [h]
  · simp
theorem nums_at {l : List Int} (hb : ∀ x ∈ l, 0 ≤ x ∧ x ≤ 255) (hl : l.length < 140737488355328) (n : Nat) (hn : n < 1000) : ∀ (d j : Nat) (k : Nat) (at_ : Int) (s : List Int × Bool) (out : List Int), j + d = n → out.length + d < 100000 → AtS l at_ s → s.2 = false → ∃ at1, prebendref12_numbers.l0 (k + d + 11) l at_ (n : Int) out (j : Int) = some (if (dec_args d s out).2.2 = true then ([], -1) else ((dec_args d s out).1, at1)) ∧ AtS l at1 (dec_args d s out).2
  | 0, j, k, at_, s, out, h, _, ha, hs => by
    refine ⟨at_, ?_, ha⟩
    rw [show k + 0 + 11 = (k + 10) + 1 by omega, prebendref12_numbers.l0.eq_2, if_neg (by omega)]
    show some (out, at_) = some (if s.2 = true then _ else (out, at_))
    rw [hs, if_neg (by simp)]
  | d + 1, j, k, at_, s, out, h, ho, ha, hs => by
    obtain ⟨at1, hf, h1⟩ := number_at (k + d + 1) hb hl ha
    have e : wrap64 ((j : Int) + 1) = ((j + 1 : Nat) : Int) := by unfold wrap64; omega
    rw [show k + (d + 1) + 11 = (k + d + 1 + 10) + 1 by omega, prebendref12_numbers.l0.eq_2, if_pos (by omega), hf, Option.bind_some, dec_args]
    by_cases hc : (rInt s).2.2 = true
    · have hneg := (h1.neg).1 hc
      have hbad := args_bad d (rInt s).2 (out ++ [(rInt s).1]) hc
      refine ⟨-1, ?_, .inl ⟨rfl, hbad⟩⟩
      rw [if_pos hneg, if_pos hbad]
    · have hneg : ¬ at1 < 0 := fun q => hc ((h1.neg).2 q)
      have hc2 : (rInt s).2.2 = false := by simpa using hc
      obtain ⟨at2, h2, h3⟩ := nums_at hb hl n hn d (j + 1) k at1 (rInt s).2 (out ++ [(rInt s).1]) (by omega) (by simp; omega) h1 hc2
      refine ⟨at2, ?_, h3⟩
      rw [if_neg hneg, if_pos (by omega), e, show k + d + 1 + 10 = k + d + 11 by omega]
      exact h2

/-- Numbers, two by two. -/
def pairs : List Int → List S87
  | a :: b :: r => ⟨a, b⟩ :: pairs r
  | _ => []
theorem args_add : ∀ (n m : Nat) (s : List Int × Bool) (out : List Int), dec_args (n + m) s out = dec_args m (dec_args n s out).2 (dec_args n s out).1
  | 0, m, s, out => by rw [Nat.zero_add]; rfl
  | n + 1, m, s, out => by rw [show n + 1 + m = (n + m) + 1 by omega, dec_args, args_add n m, dec_args]
theorem args_out : ∀ (n : Nat) (s : List Int × Bool) (out : List Int), dec_args n s out = (out ++ (dec_args n s []).1, (dec_args n s []).2)
  | 0, s, out => by simp [dec_args]
  | n + 1, s, out => by
    rw [dec_args, args_out n _ (out ++ [(rInt s).1])]
    rw [show dec_args (n + 1) s [] = dec_args n (rInt s).2 ([] ++ [(rInt s).1]) from rfl, args_out n _ ([] ++ [(rInt s).1])]
    simp
theorem legs_args : ∀ (n : Nat) (s : List Int × Bool) (out : List S87), dec_legs n s out = (out ++ pairs (dec_args (2 * n) s []).1, (dec_args (2 * n) s []).2)
  | 0, s, out => by simp [dec_legs, dec_args, pairs]
  | n + 1, s, out => by
    rw [dec_legs, legs_args n, show 2 * (n + 1) = (2 * n + 1) + 1 by omega, dec_args, dec_args, args_out (2 * n) _ ([] ++ [(rInt s).1] ++ [(rInt (rInt s).2).1])]
    simp [pairs]
theorem args_len : ∀ (n : Nat) (s : List Int × Bool) (out : List Int), (dec_args n s out).1.length = out.length + n
  | 0, s, out => by simp [dec_args]
  | n + 1, s, out => by rw [dec_args, args_len n]; simp; omega

theorem legs_l0 (n : Nat) (all : List Int) (hn : all.length = 2 * n) (hN : n < 1000) (a b c : Int) (d e : ByteArray) (args : List Int) : ∀ (m j k : Nat) (out : List S87), j + m = n → out.length + m < 10000 → prebendref12_Decode.l0 (k + m + 1) (n : Int) all (j : Int) a b c d e args out = some (a, b, c, d, e, args, out ++ pairs (all.drop (2 * j)), 0)
  | 0, j, k, out, h, _ => by
    rw [prebendref12_Decode.l0.eq_2, if_neg (by omega), List.drop_eq_nil_of_le (by omega)]
    simp [pairs]
  | m + 1, j, k, out, h, ho => by
    have e1 : wrap64 (2 * (j : Int)) = ((2 * j : Nat) : Int) := by unfold wrap64; omega
    have e2 : wrap64 (((2 * j : Nat) : Int) + 1) = ((2 * j + 1 : Nat) : Int) := by unfold wrap64; omega
    have e3 : wrap64 ((j : Int) + 1) = ((j + 1 : Nat) : Int) := by unfold wrap64; omega
    have h1 : 2 * j < all.length := by omega
    have h2 : 2 * j + 1 < all.length := by omega
    have p0 : (j : Int) < (n : Int) := by omega
    have p1 : 0 ≤ ((2 * j : Nat) : Int) := by omega
    have p2 : ((2 * j : Nat) : Int) < (all.length : Int) := by omega
    have p3 : 0 ≤ ((2 * j + 1 : Nat) : Int) := by omega
    have p4 : ((2 * j + 1 : Nat) : Int) < (all.length : Int) := by omega
    have p5 : (j + 1) + m = n := by omega
    have p6 : out.length < 8796093022208 := by omega
    have p7 : ∀ z : S87, (out ++ [z]).length + m < 10000 := fun z => by simp; omega
    have r1 : rd all ((2 * j : Nat) : Int) = all[2 * j] := by
      show all.getD ((2 * j : Nat) : Int).toNat 0 = _
      rw [Int.toNat_natCast]; simp [List.getD_eq_getElem?_getD, h1]
    have r2 : rd all ((2 * j + 1 : Nat) : Int) = all[2 * j + 1] := by
      show all.getD ((2 * j + 1 : Nat) : Int).toNat 0 = _
      rw [Int.toNat_natCast]; simp [List.getD_eq_getElem?_getD, h2]
    rw [show k + (m + 1) + 1 = (k + m + 1) + 1 by omega, prebendref12_Decode.l0.eq_2, if_pos p0, e1, if_pos p1, if_pos p2, e2, if_pos p3, if_pos p4, if_pos p6, e3, r1, r2, legs_l0 n all hn hN a b c d e args m (j + 1) k _ p5 (p7 _)]
    rw [List.drop_eq_getElem_cons h1, List.drop_eq_getElem_cons h2, show 2 * (j + 1) = 2 * j + 1 + 1 by omega]
    simp [pairs]
theorem decT_bad (a b c : Int) (d e : ByteArray) (q : List Int × (List Int × Bool)) (h : q.2.2 = true) : decT a b c d e q = decBad := by
  unfold decT
  rw [rInt_bad h, if_pos (by simp)]
  unfold decU
  simp [dec_legs, rEnd]
theorem rText_bad {s : List Int × Bool} (m : Int) (h : s.2 = true) : rText s m = ([], (s.1, true)) := by simp [rText, h]

theorem decU_bad (a b c : Int) (d e : ByteArray) (args : List Int) (q : List S87 × (List Int × Bool)) (h : rEnd q.2 = false) : decU a b c d e args q = decBad := by
  unfold decU; rw [h]; rfl
theorem rEnd_bad {s : List Int × Bool} (h : s.2 = true) : rEnd s = false := by simp [rEnd, h]
theorem legs_bad (n : Nat) (s : List Int × Bool) (out : List S87) (h : s.2 = true) : (dec_legs n s out).2.2 = true := by
  rw [legs_args]; exact args_bad _ _ _ h
theorem decT_bad2 (a b c : Int) (d e : ByteArray) (q : List Int × (List Int × Bool)) (h : (rInt q.2).2.2 = true) : decT a b c d e q = decBad := by
  unfold decT
  split
  · exact decU_bad _ _ _ _ _ _ _ (rEnd_bad (legs_bad _ _ _ h))
  · rfl
theorem nums_f {l : List Int} (hb : ∀ x ∈ l, 0 ≤ x ∧ x ≤ 255) (hl : l.length < 140737488355328) (K : Nat) (n : Nat) (hn : n < 200) (hK : 250 ≤ K) (at_ : Int) (s : List Int × Bool) (ha : AtS l at_ s) (hs : s.2 = false) : ∃ at1, prebendref12_numbers.f K l at_ (n : Int) = some (if (dec_args n s []).2.2 = true then ([], -1) else ((dec_args n s []).1, at1)) ∧ AtS l at1 (dec_args n s []).2 := by
  obtain ⟨k, rfl⟩ : ∃ k, K = k + n + 11 := ⟨K - n - 11, by omega⟩
  have := nums_at hb hl n (by omega) n 0 k at_ s [] (by omega) (by simp; omega) ha hs
  exact this
theorem j1_t (k : Nat) (l : List Int) (x5 x7 : Int) (a b c : Int) (d e : ByteArray) (args : List Int) (z : Bool) (hz : z = true) : prebendref12_Decode.j1 (k + 1) l x5 x7 z a b c d e args = some decBad := by
  rw [prebendref12_Decode.j1.eq_2, if_pos hz]; rfl
theorem j0_t (k : Nat) (l : List Int) (x5 x7 : Int) (a b c : Int) (d e : ByteArray) (z : Bool) (hz : z = true) : prebendref12_Decode.j0 (k + 1) l x5 x7 z a b c d e = some decBad := by
  rw [prebendref12_Decode.j0.eq_2, if_pos hz]; rfl
theorem j1_f {l : List Int} (hb : ∀ x ∈ l, 0 ≤ x ∧ x ≤ 255) (hl : l.length < 140737488355328) (k : Nat) (hk : 300 ≤ k) (at_ : Int) (n : Int) (h0 : 0 ≤ n) (hn : n ≤ 64) (s : List Int × Bool) (ha : AtS l at_ s) (hs : s.2 = false) (a b c : Int) (d e : ByteArray) (args : List Int) : prebendref12_Decode.j1 (k + 1) l at_ n false a b c d e args = some (decU a b c d e args (dec_legs n.toNat s [])) := by
  obtain ⟨m, rfl⟩ : ∃ m : Nat, n = (m : Int) := ⟨n.toNat, by omega⟩
  have ew : wrap64 (2 * (m : Int)) = ((2 * m : Nat) : Int) := by unfold wrap64; omega
  rw [prebendref12_Decode.j1.eq_2, if_neg (by simp), ew, Int.toNat_natCast]
  obtain ⟨at1, hf, h1⟩ := nums_f hb hl k (2 * m) (by omega) (by omega) at_ s ha hs
  rw [hf, Option.bind_some, legs_args]
  by_cases hc : (dec_args (2 * m) s []).2.2 = true
  · rw [if_pos hc, decU_bad _ _ _ _ _ _ _ (rEnd_bad hc), if_neg (by show ¬ (-1 : Int) = _; omega)]; rfl
  · rw [if_neg hc]
    have he := h1.end_
    by_cases hq : at1 = (l.length : Int)
    · rw [if_pos hq]
      have he2 : rEnd (dec_args (2 * m) s []).2 = true := by rw [he]; simp [hq]
      have := legs_l0 m (dec_args (2 * m) s []).1 (by rw [args_len]; simp) (by omega) a b c d e args m 0 (k - m - 1) [] (by omega) (by simp; omega)
      rw [show k - m - 1 + m + 1 = k by omega, show ((0 : Nat) : Int) = 0 from rfl] at this
      rw [this]
      unfold decU
      rw [if_pos he2]
      simp
    · rw [if_neg hq, decU_bad]
      · rfl
      · rw [he]; simp [hq]
theorem j0_f {l : List Int} (hb : ∀ x ∈ l, 0 ≤ x ∧ x ≤ 255) (hl : l.length < 140737488355328) (k : Nat) (hk : 320 ≤ k) (at_ : Int) (n : Int) (h0 : 0 ≤ n) (hn : n ≤ 8) (s : List Int × Bool) (ha : AtS l at_ s) (hs : s.2 = false) (a b c : Int) (d e : ByteArray) : prebendref12_Decode.j0 (k + 1) l at_ n false a b c d e = some (decT a b c d e (dec_args n.toNat s [])) := by
  obtain ⟨m, rfl⟩ : ∃ m : Nat, n = (m : Int) := ⟨n.toNat, by omega⟩
  rw [prebendref12_Decode.j0.eq_2, if_neg (by simp), Int.toNat_natCast]
  obtain ⟨at1, hf, h1⟩ := nums_f hb hl k m (by omega) (by omega) at_ s ha hs
  rw [hf, Option.bind_some]
  by_cases hc : (dec_args m s []).2.2 = true
  · rw [if_pos hc, decT_bad _ _ _ _ _ _ hc, if_pos (by simp)]; rfl
  · rw [if_neg hc]
    have hneg : ¬ at1 < 0 := fun q => hc ((h1.neg).2 q)
    rw [if_neg hneg]
    obtain ⟨at2, hf2, h2⟩ := number_at (k - 10) hb hl h1
    rw [show k - 10 + 10 = k by omega] at hf2
    rw [hf2, Option.bind_some]
    obtain ⟨k2, rfl⟩ : ∃ k2, k = k2 + 1 := ⟨k - 1, by omega⟩
    generalize hq : dec_args m s [] = q at *
    by_cases hn : at2 < 0
    · rw [if_pos hn, j1_t _ _ _ _ _ _ _ _ _ _ _ rfl, decT_bad2 _ _ _ _ _ _ ((h2.neg).2 hn)]
    · rw [if_neg hn]
      have hs2 : (rInt q.2).2.2 = false := by
        cases hz : (rInt q.2).2.2 with
        | false => rfl
        | true => exact (hn ((h2.neg).1 hz)).elim
      unfold decT
      by_cases c1 : (rInt q.2).1 < 0
      · rw [if_pos c1, j1_t _ _ _ _ _ _ _ _ _ _ _ rfl, if_neg (by omega)]
      · rw [if_neg c1]
        by_cases c2 : (rInt q.2).1 > 64
        · rw [j1_t _ _ _ _ _ _ _ _ _ _ _ (decide_eq_true c2), if_neg (by omega)]
        · rw [decide_eq_false c2, if_pos (by omega), j1_f hb hl k2 (by omega) at2 _ (by omega) (by omega) _ h2 hs2]
theorem rdec_f (K : Nat) (l : List Int) (hb : ∀ x ∈ l, 0 ≤ x ∧ x ≤ 255) (hl : l.length < 140737488355328) (hK : 350 ≤ K) : prebendref12_Decode.f K l = some (decF l) := by
  obtain ⟨k, rfl⟩ : ∃ k, K = k + 1 := ⟨K - 1, by omega⟩
  have a0 : AtS l 0 (l, false) := .inr ⟨0, rfl, by omega, by simp⟩
  obtain ⟨at1, hf1, h1⟩ := nums_f hb hl (k + 1) 3 (by omega) (by omega) 0 (l, false) a0 rfl
  unfold prebendref12_Decode.f decF
  rw [show (3 : Int) = ((3 : Nat) : Int) from rfl, hf1, Option.bind_some]
  have e3 : dec_args 3 (l, false) [] = ([(rInt (l, false)).1, (rInt (rInt (l, false)).2).1, (rInt (rInt (rInt (l, false)).2).2).1], (rInt (rInt (rInt (l, false)).2).2).2) := rfl
  rw [e3] at h1 ⊢
  simp only at h1 ⊢
  generalize (rInt (l, false)).1 = a at *
  generalize (rInt (rInt (l, false)).2).1 = b at *
  generalize rInt (rInt (rInt (l, false)).2).2 = r at *
  obtain ⟨at2, hf2, h2⟩ := word_at k hb hl 16 h1
  obtain ⟨at3, hf3, h3⟩ := word_at k hb hl 16 h2
  obtain ⟨at4, hf4, h4⟩ := number_at (k + 1 - 10) hb hl h3
  rw [show k + 1 - 10 + 10 = k + 1 by omega] at hf4
  by_cases hc : r.2.2 = true
  · rw [if_pos hc, if_pos (by simp)]
    have q1 := rText_bad 16 hc
    have q2 : (rText r.2 16).2.2 = true := by rw [q1]
    have q3 : (rText (rText r.2 16).2 16).2.2 = true := by rw [rText_bad 16 q2]
    have q4 : (rInt (rText (rText r.2 16).2 16).2).2.2 = true := by rw [rInt_bad q3]
    rw [rInt_bad q3, if_pos (by simp), decT_bad]
    · rfl
    · exact args_bad _ _ _ rfl
  · rw [if_neg hc]
    have hneg : ¬ at1 < 0 := fun q => hc ((h1.neg).2 q)
    simp only
    rw [if_neg hneg, if_pos (by simp), if_pos (by simp), if_pos (by simp), hf2, Option.bind_some]
    simp only
    rw [hf3, Option.bind_some]
    simp only
    rw [hf4, Option.bind_some]
    simp only
    generalize rInt (rText (rText r.2 16).2 16).2 = z at *
    generalize rText (rText r.2 16).2 16 = y at *
    generalize rText r.2 16 = x at *
    rw [show rd [a, b, r.1] 0 = a from rfl, show rd [a, b, r.1] 1 = b from rfl, show rd [a, b, r.1] 2 = r.1 from rfl]
    by_cases hn : at4 < 0
    · rw [if_pos hn, j0_t _ _ _ _ _ _ _ _ _ _ rfl]
      split
      · rw [decT_bad]; exact args_bad _ _ _ ((h4.neg).2 hn)
      · rfl
    · rw [if_neg hn]
      have hs2 : z.2.2 = false := by
        cases hz : z.2.2 with
        | false => rfl
        | true => exact (hn ((h4.neg).1 hz)).elim
      by_cases c1 : z.1 < 0
      · rw [if_pos c1, j0_t _ _ _ _ _ _ _ _ _ _ rfl, if_neg (by omega)]
      · rw [if_neg c1]
        by_cases c2 : z.1 > 8
        · rw [j0_t _ _ _ _ _ _ _ _ _ _ (decide_eq_true c2), if_neg (by omega)]
        · rw [decide_eq_false c2, if_pos (by omega), j0_f hb hl k (by omega) at4 _ (by omega) (by omega) _ h4 hs2]
theorem legs_len (n : Nat) (s : List Int × Bool) (out : List S87) : (dec_legs n s out).1.length = out.length + n := by
  induction n generalizing s out with
  | zero => rfl
  | succ n ih => rw [dec_legs, ih]; simp; omega
theorem decF_len (l : List Int) : (decF l).2.2.2.2.2.1.length ≤ 8 ∧ (decF l).2.2.2.2.2.2.1.length ≤ 64 := by
  unfold decF
  split
  · rename_i h
    unfold decT
    split
    · rename_i h2
      unfold decU
      split
      · simp only [args_len, legs_len, List.length_nil]; omega
      · simp [decBad]
    · simp [decBad]
  · simp [decBad]

theorem tl_iff (a b : ByteArray) : a.toList = b.toList ↔ a = b := by
  constructor
  · intro h
    rw [Go.ByteArray.toList_eq, Go.ByteArray.toList_eq] at h
    exact ByteArray.ext (Array.toList_inj.mp h)
  · rintro rfl; rfl
theorem drop_iff {α : Type} {l m : List α} {j : Nat} (h1 : j < l.length) (h2 : j < m.length) : l.drop j = m.drop j ↔ l[j] = m[j] ∧ l.drop (j + 1) = m.drop (j + 1) := by
  rw [List.drop_eq_getElem_cons h1, List.drop_eq_getElem_cons h2, List.cons.injEq]
theorem S87_iff (x y : S87) : x = y ↔ x.f0 = y.f0 ∧ x.f1 = y.f1 := by
  cases x; cases y; simp
theorem same_l1 (a0 a1 a2 : Int) (a3 a4 : ByteArray) (l5 : List Int) (l6 : List S87) (b0 b1 b2 : Int) (b3 b4 : ByteArray) (m5 : List Int) (m6 : List S87) (he : l6.length = m6.length) (hL : l6.length < 100000) : ∀ (n j K : Nat), j + n = l6.length → n + 1 ≤ K → ∃ b, prebendref12_Same.l1 K (j : Int) a0 a1 a2 a3 a4 l5 l6 b0 b1 b2 b3 b4 m5 m6 = some b ∧ (b = true ↔ l6.drop j = m6.drop j)
  | 0, j, K, h, hK => by
    obtain ⟨k, rfl⟩ : ∃ k, K = k + 1 := ⟨K - 1, by omega⟩
    refine ⟨true, by rw [prebendref12_Same.l1.eq_2, if_neg (by omega)], ?_⟩
    rw [List.drop_eq_nil_of_le (by omega), List.drop_eq_nil_of_le (by omega)]; simp
  | n + 1, j, K, h, hK => by
    obtain ⟨k, rfl⟩ : ∃ k, K = k + 1 := ⟨K - 1, by omega⟩
    have h1 : j < l6.length := by omega
    have h2 : j < m6.length := by omega
    have r1 : rd_T87 l6 (j : Int) = l6[j] := by simp [rd_T87, List.getD_eq_getElem?_getD, h1]
    have r2 : rd_T87 m6 (j : Int) = m6[j] := by simp [rd_T87, List.getD_eq_getElem?_getD, h2]
    have e : wrap64 ((j : Int) + 1) = ((j + 1 : Nat) : Int) := by unfold wrap64; omega
    rw [prebendref12_Same.l1.eq_2, if_pos (by omega), if_pos (by omega), if_pos (by omega), r1, r2, e]
    by_cases hc : l6[j].f0 = m6[j].f0 ∧ l6[j].f1 = m6[j].f1
    · obtain ⟨b, hb, hi⟩ := same_l1 a0 a1 a2 a3 a4 l5 l6 b0 b1 b2 b3 b4 m5 m6 he hL n (j + 1) k (by omega) (by omega)
      refine ⟨b, by rw [if_neg (by simp [hc.1, hc.2])]; exact hb, ?_⟩
      rw [hi, drop_iff h1 h2, S87_iff]
      exact ⟨fun h => ⟨hc, h⟩, fun h => h.2⟩
    · refine ⟨false, ?_, ?_⟩
      · rw [if_pos]
        by_cases q : l6[j].f0 = m6[j].f0
        · have : l6[j].f1 ≠ m6[j].f1 := fun q2 => hc ⟨q, q2⟩
          simp [q, this]
        · simp [q]
      · rw [drop_iff h1 h2, S87_iff]
        exact ⟨fun h => by simp at h, fun h => (hc h.1).elim⟩
theorem same_l0 (a0 a1 a2 : Int) (a3 a4 : ByteArray) (l5 : List Int) (l6 : List S87) (b0 b1 b2 : Int) (b3 b4 : ByteArray) (m5 : List Int) (m6 : List S87) (he5 : l5.length = m5.length) (he : l6.length = m6.length) (hL5 : l5.length < 100000) (hL : l6.length < 100000) : ∀ (n j K : Nat), j + n = l5.length → n + l6.length + 2 ≤ K → ∃ b, prebendref12_Same.l0 K (j : Int) a0 a1 a2 a3 a4 l5 l6 b0 b1 b2 b3 b4 m5 m6 = some b ∧ (b = true ↔ (l5.drop j = m5.drop j ∧ l6 = m6))
  | 0, j, K, h, hK => by
    obtain ⟨k, rfl⟩ : ∃ k, K = k + 1 := ⟨K - 1, by omega⟩
    obtain ⟨b, hb, hi⟩ := same_l1 a0 a1 a2 a3 a4 l5 l6 b0 b1 b2 b3 b4 m5 m6 he hL l6.length 0 k (by omega) (by omega)
    rw [show ((0 : Nat) : Int) = 0 from rfl] at hb
    refine ⟨b, by rw [prebendref12_Same.l0.eq_2, if_neg (by omega)]; exact hb, ?_⟩
    rw [hi, List.drop_zero, List.drop_zero, List.drop_eq_nil_of_le (by omega), List.drop_eq_nil_of_le (by omega)]; simp
  | n + 1, j, K, h, hK => by
    obtain ⟨k, rfl⟩ : ∃ k, K = k + 1 := ⟨K - 1, by omega⟩
    have h1 : j < l5.length := by omega
    have h2 : j < m5.length := by omega
    have p1 : (j : Int) < (l5.length : Int) := by omega
    have p2 : 0 ≤ (j : Int) := by omega
    have p3 : (j : Int) < (m5.length : Int) := by omega
    have p4 : (j + 1) + n = l5.length := by omega
    have p5 : n + l6.length + 2 ≤ k := by omega
    have r1 : rd l5 (j : Int) = l5[j] := by simp [rd, List.getD_eq_getElem?_getD, h1]
    have r2 : rd m5 (j : Int) = m5[j] := by simp [rd, List.getD_eq_getElem?_getD, h2]
    have e : wrap64 ((j : Int) + 1) = ((j + 1 : Nat) : Int) := by unfold wrap64; omega
    rw [prebendref12_Same.l0.eq_2, if_pos p1, if_pos p2, if_pos p3, r1, r2, e]
    by_cases hc : l5[j] = m5[j]
    · obtain ⟨b, hb, hi⟩ := same_l0 a0 a1 a2 a3 a4 l5 l6 b0 b1 b2 b3 b4 m5 m6 he5 he hL5 hL n (j + 1) k p4 p5
      refine ⟨b, by rw [if_pos hc]; exact hb, ?_⟩
      rw [hi, drop_iff h1 h2]
      exact ⟨fun h => ⟨⟨hc, h.1⟩, h.2⟩, fun h => ⟨h.1.2, h.2⟩⟩
    · refine ⟨false, by rw [if_neg hc], ?_⟩
      rw [drop_iff h1 h2]
      exact ⟨fun h => by simp at h, fun h => (hc h.1.1).elim⟩
theorem same_f (K : Nat) (a0 a1 a2 : Int) (a3 a4 : ByteArray) (l5 : List Int) (l6 : List S87) (b0 b1 b2 : Int) (b3 b4 : ByteArray) (m5 : List Int) (m6 : List S87) (h5 : l5.length ≤ 8) (h6 : l6.length ≤ 64) (hK : 100 ≤ K) : ∃ b, prebendref12_Same.f K a0 a1 a2 a3 a4 l5 l6 b0 b1 b2 b3 b4 m5 m6 = some b ∧ (b = true ↔ (a0, a1, a2, a3, a4, l5, l6) = (b0, b1, b2, b3, b4, m5, m6)) := by
  obtain ⟨k, rfl⟩ : ∃ k, K = k + 1 := ⟨K - 1, by omega⟩
  have hT : ∀ c, c = true → prebendref12_Same.j0 (k + 1) c a0 a1 a2 a3 a4 l5 l6 b0 b1 b2 b3 b4 m5 m6 = some false := fun c hc => by rw [prebendref12_Same.j0.eq_2, if_pos hc]
  unfold prebendref12_Same.f
  simp only [Prod.mk.injEq]
  by_cases c0 : a0 = b0
  · rw [if_pos c0]
    by_cases c1 : a1 = b1
    · rw [if_pos c1]
      by_cases c2 : a2 = b2
      · rw [if_pos c2]
        by_cases c3 : a3 = b3
        · rw [if_pos ((tl_iff _ _).2 c3)]
          by_cases c4 : a4 = b4
          · rw [if_pos ((tl_iff _ _).2 c4)]
            by_cases c5 : (l5.length : Int) = (m5.length : Int)
            · rw [if_pos c5]
              by_cases c6 : (l6.length : Int) = (m6.length : Int)
              · obtain ⟨b, hb, hi⟩ := same_l0 a0 a1 a2 a3 a4 l5 l6 b0 b1 b2 b3 b4 m5 m6 (by omega) (by omega) (by omega) (by omega) l5.length 0 k (by omega) (by omega)
                rw [show ((0 : Nat) : Int) = 0 from rfl] at hb
                refine ⟨b, by rw [prebendref12_Same.j0.eq_2, if_neg (by simp [c6])]; exact hb, ?_⟩
                rw [hi, List.drop_zero, List.drop_zero]
                exact ⟨fun h => ⟨c0, c1, c2, c3, c4, h.1, h.2⟩, fun h => ⟨h.2.2.2.2.2.1, h.2.2.2.2.2.2⟩⟩
              · exact ⟨false, hT _ (by simp [bne, c6]), ⟨fun h => by simp at h, fun h => (c6 (by rw [h.2.2.2.2.2.2])).elim⟩⟩
            · rw [if_neg c5]; exact ⟨false, hT _ rfl, ⟨fun h => by simp at h, fun h => (c5 (by rw [h.2.2.2.2.2.1])).elim⟩⟩
          · rw [if_neg (fun h => c4 ((tl_iff _ _).1 h))]; exact ⟨false, hT _ rfl, ⟨fun h => by simp at h, fun h => (c4 h.2.2.2.2.1).elim⟩⟩
        · rw [if_neg (fun h => c3 ((tl_iff _ _).1 h))]; exact ⟨false, hT _ rfl, ⟨fun h => by simp at h, fun h => (c3 h.2.2.2.1).elim⟩⟩
      · rw [if_neg c2]; exact ⟨false, hT _ rfl, ⟨fun h => by simp at h, fun h => (c2 h.2.2.1).elim⟩⟩
    · rw [if_neg c1]; exact ⟨false, hT _ rfl, ⟨fun h => by simp at h, fun h => (c1 h.2.1).elim⟩⟩
  · rw [if_neg c0]; exact ⟨false, hT _ rfl, ⟨fun h => by simp at h, fun h => (c0 h.1).elim⟩⟩

theorem awake12 : prebendlaw12_awake.f 500 = some true := by decide +kernel
theorem EntryDecodes : prebendlaw12_EntryDecodes.Pure := by
  intro l h0 h1 h2
  refine ⟨500, ?_⟩
  have hb : ∀ x ∈ l, 0 ≤ x ∧ x ≤ 255 := fun x hx => by
    have := h2 x hx
    simpa [Lit.wf, IntKind.min, IntKind.max, IntKind.signed, IntKind.bits] using this
  have hl : l.length < 140737488355328 := by omega
  unfold prebendlaw12_EntryDecodes.f
  rw [show entry_Decode.f l = some (decF l) from if_pos ⟨hl, hb⟩, Option.bind_some, rdec_f 500 l hb hl (by omega), Option.bind_some, awake12, Option.bind_some, if_pos rfl]
  obtain ⟨b, hb2, hi⟩ := same_f 500 (decF l).1 (decF l).2.1 (decF l).2.2.1 (decF l).2.2.2.1 (decF l).2.2.2.2.1 (decF l).2.2.2.2.2.1 (decF l).2.2.2.2.2.2.1 (decF l).1 (decF l).2.1 (decF l).2.2.1 (decF l).2.2.2.1 (decF l).2.2.2.2.1 (decF l).2.2.2.2.2.1 (decF l).2.2.2.2.2.2.1 (decF_len l).1 (decF_len l).2 (by omega)
  rw [hb2, hi.2 rfl, Option.bind_some, if_pos rfl]
  simp

end Go.Proofs.Ytjmkpcnekghmhaa.Pure
end
section
namespace Go.Proofs.Ytjmkpcnekghmhaa.entryDecodes
open Go.ChangeShapes Go.WideShapes Go.ChangeAt Go.RowKit
open Go.ChangeMaps (open_string shut_string)
set_option linter.unusedVariables false
theorem own : ownKnob Try.prog.godebug = none := by kernel_rfl
theorem laidOut : laidOutB Try.prog = true := by kernel_rfl
def IsRow (k : IntKind) (w : World) (a : Option Addr) (len cap : Nat) (zs : List Int) : Prop :=
  (a = none ∧ len = 0 ∧ cap = 0 ∧ zs = []) ∨
  ∃ x, a = some x ∧ len ≤ cap ∧ cap ≤ maxLen ∧ zs.length = cap ∧ (∀ i, i < zs.length → w.cell? (x.add i) = some (.int k (zs.getD i 0))) ∧ ∀ n ∈ zs, (Lit.int k n).wf = true
set_option maxRecDepth 100000 in
theorem lifted (os : Os) (started : os.Started) (H : Type) (enc : TypeId × Value → H) :
    ReturnsInHanded {} Try.checked os 9 .any (Rows.entryDecodesSpec.pre6 enc Try.prog Try.f9 Rows.entryDecodesRow.domain false) (Rows.entryDecodesSpec.post enc Try.prog Try.f9 false true false false) := by
  refine returnsInHanded_of_change_sized (C := Try.checked) own started (by kernel_rfl) Try.func9
    (ChangeSpec.witness6 (enc := enc) (C := Try.checked) false ⟨#[], #[.slice none 0 0], []⟩ 8 (by kernel_rfl) (by kernel_rfl) (by kernel_rfl) (by kernel_rfl)) ?_
  intro W base args ds gs before hval0 hW hcnd hsz0 _
  have hsz : (DataW.weightsEach Try.prog (Try.f9.params.toList ++ Rows.entryDecodesSpec.plain.varTypes Try.prog) (ds ++ gs)).all (· ≤ reachBytes) = true := hsz0
  have hval : ∀ (j : Nat) t v, Try.f9.params[j]? = some t → args[j]? = some v → Value.okWide Try.prog W .any base t v := hval0
  have hW' := hW
  obtain ⟨p, q, hA0, hV, rfl, hfz, hnd⟩ := hW
  have hA : DataW.TrodAll enc Try.prog W 0 (fun _ => true) true Try.f9.params.toList args.toList ds p := hA0
  rw [Try.params9] at hA hval hsz
  obtain ⟨v0, vs0, d0, ds0, p0, q0, hargs, rfl, rfl, h0, r0⟩ := trodAll_cons hA
  obtain ⟨rfl, rfl, rfl⟩ := trodAll_nil r0
  obtain rfl : args = #[v0] := by cases args; simp_all
  obtain ⟨rfl, rfl⟩ := trodVars_none hV
  obtain ⟨a0, len0, cap0, rfl⟩ := okWide_slice Try.underlying22 (hval 0 22 v0 rfl rfl)
  have k0 := h0
  have lt0 : ∀ x ∈ p0, x.block < W.heap.size := by obtain ⟨m, hm⟩ := k0; exact DataW.trod_lt m _ _ _ hm
  obtain ⟨z0, w0⟩ : ∃ zs, IsRow .u8 W a0 len0 cap0 zs := by
    obtain ⟨fuel, hf⟩ := h0
    rcases open_ints Try.underlying22 Try.underlying5 (by kernel_rfl) hf with ⟨hcs, _⟩ | ⟨x, l, c, zs, hcs, _, hl, hm, hz, _, hcell, hwz⟩
    · simp [Value.cells] at hcs
      obtain ⟨rfl, rfl, rfl⟩ := hcs
      exact ⟨[], .inl ⟨rfl, rfl, rfl, rfl⟩⟩
    · simp [Value.cells] at hcs
      obtain ⟨rfl, rfl, rfl⟩ := hcs
      exact ⟨zs, .inr ⟨_, rfl, hl, hm, by simpa using hz, hcell, hwz⟩⟩
  have y0 : len0 * 1 ≤ 140737488351232 := Go.Proofs.YtjmkpcnekghmhaaW.PrintWords.sized_ints hsz (j := 0) (t := 22) rfl rfl Try.underlying22 Try.underlying5 (by kernel_rfl) (by kernel_rfl) h0
  clear hA0 hval0 hsz0 hsz
  refine (PAll.prebendlaw12_EntryDecodes.walk Pure.EntryDecodes a0 len0 cap0 z0 W w0 y0).mono fun e W' ⟨he, bel⟩ => ?_
  subst he
  exact ⟨_, rfl, _, _, _, [], _, [], hW', trodAll_mk1 (shut_bool Try.underlying4 _), (trodAll_cons_mk (Below.trod laidOut (by kernel_rfl) (of_decide_eq_true (by kernel_rfl)) k0 bel lt0) trodAll_mk0), rfl, bel.frame _, fun h => by cases h⟩
theorem over : Rows.entryDecodesRow.holds Try.pinned (OpenSpec.ofChange Rows.entryDecodesSpec) :=
  OpenClaim.holds_of_wide 9 Try.f9 rfl rfl rfl rfl rfl rfl rfl ⟨rfl, rfl, rfl, rfl, rfl⟩ rfl rfl rfl rfl rfl (by kernel_rfl) Try.func9 (by kernel_rfl)
    (of_decide_eq_true (by kernel_rfl)) (by unfold Func.isWrapper; first | (rw [if_pos (by decide +kernel)]; kernel_rfl) | (rw [if_neg (by decide +kernel)]; exact ⟨rfl, rfl⟩))
    (fun os started H enc _ => lifted os started H enc)
theorem proved : Rows.EntryDecodesSaid := over
#print axioms proved
end Go.Proofs.Ytjmkpcnekghmhaa.entryDecodes
namespace Go.Proofs.Ytjmkpcnekghmhaa
/-- The row, under a short name, for the claim. -/
theorem entryDecodes_holds : Rows.EntryDecodesSaid := entryDecodes.proved
end Go.Proofs.Ytjmkpcnekghmhaa
end
