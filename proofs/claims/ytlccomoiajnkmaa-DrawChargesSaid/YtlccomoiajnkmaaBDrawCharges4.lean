/- What any amount takes of any draws, and what these are together, is what the document says: for all lists and numbers that a call may be handed; no conditions. -/
import Derived.Test.YtlccomoiajnkmaaBDrawCharges3
import Derived.Deep.Slices
import Derived.Deep.Fields
import Derived.ChangeSame
import Derived.ChangeArms
import Derived.OpenShut
import Derived.Test.YtlccomoiajnkmaaRows
import Derived.ProofKit
import Derived.ShutString
import Derived.ChangeOld
import Derived.Carry
section
namespace Go.Proofs.Ytlccomoiajnkmaa.PAll
open Go.RowKit Go.Proofs.YtlccomoiajnkmaaW.PrintWords Go.Proofs.YtlccomoiajnkmaaW.PrintLast Go.Proofs.YtlccomoiajnkmaaW.PrintMore
attribute [local go_sem] max2_int min2_int max_two min_two max_three min_three max_four min_four
set_option linter.unusedVariables false
set_option linter.unusedSimpArgs false
def prebendlaw11_DrawCharges.Pure : Prop := ∀ (l0 : List S37) (a1 : Int), (l0.length ≤ maxLen ∧ ∀ y ∈ l0, g37 y) → (Lit.int .i64 a1).wf = true → ∃ k a e n g, draw_Charge.f k (l0.take 40) a1 = some (a, e) ∧ prebendref11_Charge.f k (l0.take 40) a1 = some (a, e) ∧ draw_Total.f k (l0.take 40) = some (n, g) ∧ prebendref11_Total.f k (l0.take 40) = some (n, g) ∧ prebendlaw11_awake.f k = some true ∧ prebendref11_Alike.f k a a = some true
set_option maxHeartbeats 8000000 in
set_option maxRecDepth 100000 in
theorem prebendlaw11_DrawCharges.at_ (k : Nat) (A0 : Option Addr) (c0 : Nat) (l0 x : List S37) (a1 : Int) (a : List S37) (e n g : Int) (w : World) (hx : l0.take 40 = x) (hr0 : Kd.C k37 w A0 x.length x) (hc0 : l0.length ≤ c0) (h1 : draw_Charge.f k x a1 = some (a, e)) (h2 : prebendref11_Charge.f k x a1 = some (a, e)) (h3 : draw_Total.f k x = some (n, g)) (h4 : prebendref11_Total.f k x = some (n, g)) (h5 : prebendlaw11_awake.f k = some true) (h6 : prebendref11_Alike.f k a a = some true) :
    Calls Try.prog 6 #[.slice A0 l0.length c0, .int .i64 a1] w fun e w' => e = .returned (.bool true) ∧ Below w.heap.size w w' := by
  have HR := Aside0.mk hr0
  have HC : Aside0 (x.length ≤ c0) := ⟨by rw [← hx, List.length_take]; omega⟩
  have H1 := Aside0.mk h1
  have H2 := Aside0.mk h2
  have H3 := Aside0.mk h3
  have H4 := Aside0.mk h4
  have H5 := Aside0.mk h5
  have H6 := Aside0.mk h6
  have HB := Aside0.mk (Below.refl w.heap.size w)
  clear hr0 h1 h2 h3 h4 h5 h6
  by_cases h : (l0.length : Int) > 40
  · have c1 : decide (40 < (l0.length : Int)) = true := decide_eq_true h
    have c2 : decide (40 < l0.length) = true := decide_eq_true (by omega)
    obtain ⟨i07, hi07, _, hsz7, _⟩ := info_parts info37
    have hcut7 := cut_to (P := Try.prog) 26 37 .i64 Try.underlying26 hi07 A0 l0.length c0 40 (by omega) (by omega) hc0
    have hlen : x.length = (40 : Int).toNat := by rw [← hx, List.length_take]; omega
    rw [← hlen] at hcut7
    clear hx hi07 hsz7 hlen h hc0
    go_enter Try.func6, Try.ntmps6
    go_wp2_with (first | (go_at_call 21; (with_reducible refine (draw_Charge.calls k A0 c0 x a1 a e _ HR.out HC.out H1.out).mono ?_); rintro er w1 ⟨v1, rfl, hv, hb⟩; obtain ⟨Aq, cq, rfl, hcq, hFq⟩ := hv; have HQ := Aside0.mk (Kd.V_mk (e := 37) (base := w.heap.size) hcq hFq); have n_ := Aside0.mk hb; clear HB; have HB := n_; clear n_ hb hcq hFq) | (go_at_call 22; (with_reducible refine (prebendref11_Charge.calls k A0 c0 x a1 a e _ (Kd.C_below HR.out HB.out) HC.out H2.out).mono ?_); rintro er w2 ⟨v2, rfl, hr, hb⟩; obtain ⟨Ar, cr, rfl, hcr, hCr⟩ := Kd.R_reads hr; have HS := Aside0.mk (Kd.V_reads' (Kd.V_below HQ.out hb)); have HT := Aside0.mk hCr; have HTC := Aside0.mk hcr; have n_ := Aside0.mk (below_step HB.out hb); clear HB HQ; have HB := n_; clear n_ hb hcr hCr hr) | (go_at_call 23; (with_reducible refine (draw_Total.calls k A0 c0 x n g _ (Kd.C_below HR.out HB.out) HC.out H3.out).mono ?_); rintro er w3 ⟨rfl, hb⟩; have m1_ := Aside0.mk (Kd.C_below HS.out.2.2 hb); have m2_ := Aside0.mk HS.out.2.1; have m3_ := Aside0.mk (Kd.C_below HT.out hb); have n_ := Aside0.mk (below_step HB.out hb); clear HB HS HT; have HB := n_; have HS := m1_; have HSC := m2_; have HT := m3_; clear n_ m1_ m2_ m3_ hb) | (go_at_call 24; (with_reducible refine (prebendref11_Total.calls k A0 c0 x n g _ (Kd.C_below HR.out HB.out) HC.out H4.out).mono ?_); rintro er w4 ⟨rfl, hb⟩; have m1_ := Aside0.mk (Kd.C_below HS.out hb); have m3_ := Aside0.mk (Kd.C_below HT.out hb); have n_ := Aside0.mk (below_step HB.out hb); clear HB HS HT; have HB := n_; have HS := m1_; have HT := m3_; clear n_ m1_ m3_ hb) | (go_at_call 11; (with_reducible refine (prebendlaw11_awake.calls k true _ H5.out).mono ?_); rintro er w5 ⟨rfl, hb⟩; have m1_ := Aside0.mk (Kd.C_below HS.out hb); have m3_ := Aside0.mk (Kd.C_below HT.out hb); have n_ := Aside0.mk (below_step HB.out hb); clear HB HS HT; have HB := n_; have HS := m1_; have HT := m3_; clear n_ m1_ m3_ hb) | (go_at_call 12; (with_reducible refine (prebendref11_Alike.calls k _ _ a _ _ a true _ HS.out HSC.out HT.out HTC.out H6.out).mono ?_); rintro er w6 ⟨rfl, hd⟩; have n_ := Aside0.mk (below_step HB.out hd.below); clear HB; have HB := n_; clear n_ hd))
    go_ret
    exact ⟨by simp, HB.out⟩
  · have c1 : decide (40 < (l0.length : Int)) = false := decide_eq_false h
    have c2 : decide (40 < l0.length) = false := decide_eq_false (by omega)
    have ee : x = l0 := by rw [← hx, List.take_of_length_le (by omega)]
    subst ee
    clear hx h hc0
    go_enter Try.func6, Try.ntmps6
    go_wp2_with (first | (go_at_call 21; (with_reducible refine (draw_Charge.calls k A0 c0 x a1 a e _ HR.out HC.out H1.out).mono ?_); rintro er w1 ⟨v1, rfl, hv, hb⟩; obtain ⟨Aq, cq, rfl, hcq, hFq⟩ := hv; have HQ := Aside0.mk (Kd.V_mk (e := 37) (base := w.heap.size) hcq hFq); have n_ := Aside0.mk hb; clear HB; have HB := n_; clear n_ hb hcq hFq) | (go_at_call 22; (with_reducible refine (prebendref11_Charge.calls k A0 c0 x a1 a e _ (Kd.C_below HR.out HB.out) HC.out H2.out).mono ?_); rintro er w2 ⟨v2, rfl, hr, hb⟩; obtain ⟨Ar, cr, rfl, hcr, hCr⟩ := Kd.R_reads hr; have HS := Aside0.mk (Kd.V_reads' (Kd.V_below HQ.out hb)); have HT := Aside0.mk hCr; have HTC := Aside0.mk hcr; have n_ := Aside0.mk (below_step HB.out hb); clear HB HQ; have HB := n_; clear n_ hb hcr hCr hr) | (go_at_call 23; (with_reducible refine (draw_Total.calls k A0 c0 x n g _ (Kd.C_below HR.out HB.out) HC.out H3.out).mono ?_); rintro er w3 ⟨rfl, hb⟩; have m1_ := Aside0.mk (Kd.C_below HS.out.2.2 hb); have m2_ := Aside0.mk HS.out.2.1; have m3_ := Aside0.mk (Kd.C_below HT.out hb); have n_ := Aside0.mk (below_step HB.out hb); clear HB HS HT; have HB := n_; have HS := m1_; have HSC := m2_; have HT := m3_; clear n_ m1_ m2_ m3_ hb) | (go_at_call 24; (with_reducible refine (prebendref11_Total.calls k A0 c0 x n g _ (Kd.C_below HR.out HB.out) HC.out H4.out).mono ?_); rintro er w4 ⟨rfl, hb⟩; have m1_ := Aside0.mk (Kd.C_below HS.out hb); have m3_ := Aside0.mk (Kd.C_below HT.out hb); have n_ := Aside0.mk (below_step HB.out hb); clear HB HS HT; have HB := n_; have HS := m1_; have HT := m3_; clear n_ m1_ m3_ hb) | (go_at_call 11; (with_reducible refine (prebendlaw11_awake.calls k true _ H5.out).mono ?_); rintro er w5 ⟨rfl, hb⟩; have m1_ := Aside0.mk (Kd.C_below HS.out hb); have m3_ := Aside0.mk (Kd.C_below HT.out hb); have n_ := Aside0.mk (below_step HB.out hb); clear HB HS HT; have HB := n_; have HS := m1_; have HT := m3_; clear n_ m1_ m3_ hb) | (go_at_call 12; (with_reducible refine (prebendref11_Alike.calls k _ _ a _ _ a true _ HS.out HSC.out HT.out HTC.out H6.out).mono ?_); rintro er w6 ⟨rfl, hd⟩; have n_ := Aside0.mk (below_step HB.out hd.below); clear HB; have HB := n_; clear n_ hd))
    go_ret
    exact ⟨by simp, HB.out⟩
theorem prebendlaw11_DrawCharges.walk (P : prebendlaw11_DrawCharges.Pure) (A0 : Option Addr) (c0 : Nat) (l0 : List (S37)) (a1 : Int) (w : World) (hr0 : Kd.C k37 w A0 l0.length l0) (hc0 : l0.length ≤ c0) (h0_ : (l0.length ≤ maxLen ∧ ∀ y ∈ l0, g37 y)) (h1_ : (Lit.int .i64 a1).wf = true) :
    Calls Try.prog 6 #[.slice A0 l0.length c0, .int .i64 a1] w fun e w' => e = .returned (.bool true) ∧ Below w.heap.size w w' := by
  obtain ⟨k, a, e, n, g, q1, q2, q3, q4, q5, q6⟩ := P l0 a1 h0_ h1_
  have hl : (l0.take 40).length ≤ l0.length := by rw [List.length_take]; omega
  exact prebendlaw11_DrawCharges.at_ k A0 c0 l0 (l0.take 40) a1 a e n g w rfl (by by_cases h : l0.length ≤ 40; (rw [List.take_of_length_le h]; exact hr0); exact Kd.C_take hr0 (by omega)) hc0 q1 q2 q3 q4 q5 q6
end Go.Proofs.Ytlccomoiajnkmaa.PAll
end
section
set_option linter.unusedVariables false
set_option linter.unusedSimpArgs false
namespace Go.Proofs.Ytlccomoiajnkmaa.Pure
open Go Go.RowKit Go.Proofs.Ytlccomoiajnkmaa.PAll Go.Proofs.YtlccomoiajnkmaaW.PrintWords Go.Proofs.YtlccomoiajnkmaaW.PrintLast

def fitB (n : Int) : Bool := decide (-1152921504606846976 ≤ n) && decide (n ≤ 1152921504606846976)
theorem fitB_iff (n : Int) : fitB n = true ↔ -1152921504606846976 ≤ n ∧ n ≤ 1152921504606846976 := by simp [fitB]
theorem rd_drop (l : List Int) (i : Nat) (h : i < l.length) : l.drop i = rd l (i : Int) :: l.drop (i + 1) := by
  rw [List.drop_eq_getElem_cons h]; simp [rd, h]
theorem wrap_id (n : Int) (h : -9223372036854775808 ≤ n) (h2 : n < 9223372036854775808) : wrap64 n = n := by unfold wrap64; omega

theorem fits_eq (n : Int) : money_fits.f n = some (fitB n) := by
  unfold money_fits.f fitB
  by_cases h : n ≥ -1152921504606846976
  · rw [if_pos h]; simp [h]
  · rw [if_neg h]; simp [h]

theorem Fits_eq (n : Int) : prebendref01_Fits.f n = some (fitB n) := by
  unfold prebendref01_Fits.f fitB
  by_cases h : n ≥ -1152921504606846976
  · rw [if_pos h]; simp [h]
  · rw [if_neg h]; simp [h]

def addS : Int → List Int → Int × Int
  | s, [] => (s, 0)
  | s, x :: xs => if fitB x && fitB (s + x) then addS (s + x) xs else (0, 2)

theorem add_l0 (l : List Int) (hl : l.length < 9223372036854775807) (d : Nat) : ∀ (k i : Nat) (s : Int), l.length - i = d → i ≤ l.length → d < k → fitB s = true →
    money_Add.l0 k s l (l.length : Int) (i : Int) = some (addS s (l.drop i)) := by
  induction d with
  | zero =>
    intro k i s hd hi hk hs
    obtain ⟨k, rfl⟩ : ∃ m, k = m + 1 := ⟨k - 1, by omega⟩
    have : i = l.length := by omega
    subst this
    simp only [money_Add.l0]
    rw [if_neg (by omega)]; simp [addS]
  | succ d ih =>
    intro k i s hd hi hk hs
    obtain ⟨k, rfl⟩ : ∃ m, k = m + 1 := ⟨k - 1, by omega⟩
    simp only [money_Add.l0]
    rw [if_pos (by omega), if_pos (by omega), if_pos (by omega), rd_drop l i (by omega), fits_eq]
    simp only [Option.bind_some, addS]
    have hs' := (fitB_iff s).1 hs
    by_cases h1 : fitB (rd l i) = true
    · rw [if_pos h1]
      have h1' := (fitB_iff _).1 h1
      rw [wrap_id (s + rd l i) (by omega) (by omega), fits_eq]
      simp only [Option.bind_some, h1, Bool.true_and]
      by_cases h2 : fitB (s + rd l i) = true
      · rw [if_pos h2, if_pos h2, wrap_id (↑i + 1) (by omega) (by omega)]
        exact ih k (i + 1) _ (by omega) (by omega) (by omega) h2
      · rw [if_neg h2, if_neg h2]
    · rw [if_neg h1]
      simp [h1]
theorem add_eq (l : List Int) (hl : l.length < 9223372036854775807) (k : Nat) (hk : l.length < k) : money_Add.f k l = some (addS 0 l) := by
  have := add_l0 l hl l.length k 0 0 (by omega) (by omega) hk (by decide)
  simpa [money_Add.f] using this

theorem Add_l0 (l : List Int) (hl : l.length < 9223372036854775807) (d : Nat) : ∀ (k i : Nat) (s : Int), l.length - i = d → i ≤ l.length → d < k → fitB s = true →
    prebendref01_Add.l0 k l s (i : Int) = some (addS s (l.drop i)) := by
  induction d with
  | zero =>
    intro k i s hd hi hk hs
    obtain ⟨k, rfl⟩ : ∃ m, k = m + 1 := ⟨k - 1, by omega⟩
    have : i = l.length := by omega
    subst this
    simp only [prebendref01_Add.l0]
    rw [if_neg (by omega)]; simp [addS]
  | succ d ih =>
    intro k i s hd hi hk hs
    obtain ⟨k, rfl⟩ : ∃ m, k = m + 1 := ⟨k - 1, by omega⟩
    simp only [prebendref01_Add.l0]
    rw [if_pos (by omega), if_pos (by omega), rd_drop l i (by omega), Fits_eq]
    simp only [Option.bind_some, addS]
    have hs' := (fitB_iff s).1 hs
    by_cases h1 : fitB (rd l i) = true
    · rw [if_pos h1]
      have h1' := (fitB_iff _).1 h1
      rw [wrap_id (s + rd l i) (by omega) (by omega), wrap_id (1152921504606846976 - rd l i) (by omega) (by omega), wrap_id (-1152921504606846976 - rd l i) (by omega) (by omega), wrap_id (↑i + 1) (by omega) (by omega)]
      simp only [h1, Bool.true_and]
      by_cases h2 : fitB (s + rd l i) = true
      · have h2' := (fitB_iff _).1 h2
        have e := ih k (i + 1) _ (by omega) (by omega) (by omega) h2
        rw [if_pos h2]
        rw [← e]
        repeat' split
        all_goals first | rfl | omega
      · have h2' : ¬ _ := fun h => h2 ((fitB_iff _).2 h)
        rw [if_neg h2]
        repeat' split
        all_goals first | rfl | omega
    · rw [if_neg h1]
      simp [h1]
theorem Add_eq (l : List Int) (hl : l.length < 9223372036854775807) (k : Nat) (hk : l.length < k) : prebendref01_Add.f k l = some (addS 0 l) := by
  have := Add_l0 l hl l.length k 0 0 (by omega) (by omega) hk (by decide)
  simpa [prebendref01_Add.f] using this

theorem awake11 : Ev (fun k => prebendlaw11_awake.f k) true := Ev.of prebendlaw11_awake.mono (k := 60) (by decide +kernel)

theorem i64_hi (x : Int) (h : (Lit.int .i64 x).wf = true) : x ≤ 9223372036854775807 := by
  simp only [Lit.wf, Bool.and_eq_true, decide_eq_true_eq] at h
  have e2 : IntKind.i64.max = 9223372036854775807 := by decide +kernel
  omega
theorem alike_refl (a : List S37) (hl : a.length < 1000000) : ∀ (m i : Nat), i + m = a.length → Ev (fun k => prebendref11_Alike.l0 k a a (i : Int)) true
  | 0, i, him => Ev.step (f := fun _ => some true) (fun k => by simp only [prebendref11_Alike.l0]; rw [if_neg (by omega)]) (Ev.now _)
  | m + 1, i, him => by
    refine Ev.step (fun k => ?_) (alike_refl a hl m (i + 1) (by omega))
    simp only [prebendref11_Alike.l0, beq_self_eq_true, Bool.not_true, Bool.or_self, Bool.false_eq_true, if_false]
    rw [if_pos (by omega), if_pos (by omega), if_pos (by omega), show wrap64 ((i : Int) + 1) = ((i + 1 : Nat) : Int) by unfold wrap64; omega]
theorem alike_f (a : List S37) (hl : a.length < 1000000) : Ev (fun k => prebendref11_Alike.f k a a) true := by
  refine Ev.congr (fun k => ?_) (alike_refl a hl a.length 0 (by omega))
  unfold prebendref11_Alike.f
  rw [if_pos rfl]; rfl

/-! ### what an amount takes of draws -/
def chg : List S37 → Int → List S37 → List S37 × Int
  | [], am, out => if am > 0 then ([], 7) else (out, 0)
  | d :: r, am, out => if d.f1 < 0 then ([], 7) else chg r (am - min am d.f1) (out ++ [⟨d.f0, min am d.f1⟩])
theorem rd37_mid (pre post : List S37) (x : S37) (i : Int) (hi : i = pre.length) : rd_T37 (pre ++ x :: post) i = x := by
  subst hi
  simp [rd_T37]
theorem chg_l0 (ds : List S37) (hl : ds.length < 1000000) : ∀ (r pre out : List S37) (am : Int), ds = pre ++ r → out.length = pre.length → 0 ≤ am → am < 9223372036854775808 → Ev (fun k => draw_Charge.l0 k ds (out ++ r) am (pre.length : Int)) (chg r am out)
  | [], pre, out, am, hd, ho, h0, h1 => by
    refine Ev.step (f := fun _ => some (chg [] am out)) (fun k => ?_) (Ev.now _)
    simp only [draw_Charge.l0, chg]
    rw [if_neg (by rw [hd]; simp), List.append_nil]
    split <;> rfl
  | d :: r, pre, out, am, hd, ho, h0, h1 => by
    have hdl : ds.length = pre.length + r.length + 1 := by rw [hd]; simp; omega
    have hx : rd_T37 ds (pre.length : Int) = d := by rw [hd]; exact rd37_mid _ _ _ _ rfl
    have hy : rd_T37 (out ++ d :: r) (pre.length : Int) = d := rd37_mid _ _ _ _ (by omega)
    by_cases c : d.f1 < 0
    · refine Ev.step (f := fun _ => some ([], 7)) (fun k => ?_) (by simp only [chg]; rw [if_pos c]; exact Ev.now _)
      simp only [draw_Charge.l0]
      rw [if_pos (by omega), if_pos (by omega), hx, if_pos c]
    · have ih := chg_l0 ds hl r (pre ++ [d]) (out ++ [⟨d.f0, min am d.f1⟩]) (am - min am d.f1) (by rw [hd]; simp) (by simp; omega) (by omega) (by omega)
      simp only [chg]
      rw [if_neg c]
      refine Ev.step (fun k => ?_) ih
      simp only [draw_Charge.l0]
      have hset : (out ++ d :: r).set ((pre.length : Int)).toNat (⟨d.f0, min am d.f1⟩ : S37) = (out ++ [(⟨d.f0, min am d.f1⟩ : S37)]) ++ r := by
        rw [show ((pre.length : Int)).toNat = out.length by omega]
        simp
      rw [if_pos (by omega), if_pos (by omega), hx, hy, if_neg c, hset, show wrap64 (am - min am d.f1) = am - min am d.f1 by unfold wrap64; omega, show wrap64 ((pre.length : Int) + 1) = (((pre ++ [d]).length : Nat) : Int) by simp; unfold wrap64; omega]
theorem rchg_l0 (ds : List S37) (hl : ds.length < 1000000) : ∀ (r pre out : List S37) (am : Int), ds = pre ++ r → out.length = pre.length → 0 ≤ am → am < 9223372036854775808 → Ev (fun k => prebendref11_Charge.l0 k ds am out (pre.length : Int)) (chg r am out)
  | [], pre, out, am, hd, ho, h0, h1 => by
    refine Ev.step (f := fun _ => some (chg [] am out)) (fun k => ?_) (Ev.now _)
    simp only [prebendref11_Charge.l0, chg]
    rw [if_neg (by rw [hd]; simp)]
    split <;> rfl
  | d :: r, pre, out, am, hd, ho, h0, h1 => by
    have hdl : ds.length = pre.length + r.length + 1 := by rw [hd]; simp; omega
    have hx : rd_T37 ds (pre.length : Int) = d := by rw [hd]; exact rd37_mid _ _ _ _ rfl
    by_cases c : d.f1 < 0
    · refine Ev.step (f := fun _ => some ([], 7)) (fun k => ?_) (by simp only [chg]; rw [if_pos c]; exact Ev.now _)
      simp only [prebendref11_Charge.l0]
      rw [if_pos (by omega), if_pos (by omega), hx, if_pos c]
    · have ih := rchg_l0 ds hl r (pre ++ [d]) (out ++ [⟨d.f0, min am d.f1⟩]) (am - min am d.f1) (by rw [hd]; simp) (by simp; omega) (by omega) (by omega)
      simp only [chg]
      rw [if_neg c]
      refine Ev.step (fun k => ?_) ih
      simp only [prebendref11_Charge.l0]
      rw [if_pos (by omega), if_pos (by omega), hx, if_neg c, show wrap64 ((pre.length : Int) + 1) = (((pre ++ [d]).length : Nat) : Int) by simp; unfold wrap64; omega]
      by_cases c2 : d.f1 > am
      · rw [if_pos c2, if_pos (by omega), show min am d.f1 = am by omega, show wrap64 (am - am) = am - am by unfold wrap64; omega]
      · rw [if_neg c2, if_pos (by omega), show min am d.f1 = d.f1 by omega, show wrap64 (am - d.f1) = am - d.f1 by unfold wrap64; omega]
theorem chg_len : ∀ (r out : List S37) (am : Int), (chg r am out).1.length ≤ out.length + r.length
  | [], out, am => by simp only [chg]; split <;> simp
  | d :: r, out, am => by
    simp only [chg]
    split
    · simp
    · have := chg_len r (out ++ [⟨d.f0, min am d.f1⟩]) (am - min am d.f1)
      simp at this ⊢; omega
def chargeS (ds : List S37) (am : Int) : List S37 × Int := if am < 0 then ([], 1) else chg ds am []
theorem chargeS_len (ds : List S37) (am : Int) : (chargeS ds am).1.length ≤ ds.length := by
  unfold chargeS
  split
  · simp
  · simpa using chg_len ds [] am
theorem charge_f (ds : List S37) (hl : ds.length < 1000000) (am : Int) (h1 : am < 9223372036854775808) : Ev (fun k => draw_Charge.f k ds am) (chargeS ds am) := by
  unfold chargeS
  by_cases c : am < 0
  · rw [if_pos c]; exact Ev.congr (f := fun _ => some ([], 1)) (fun k => by unfold draw_Charge.f; rw [if_pos c]) (Ev.now _)
  · rw [if_neg c]
    refine Ev.congr (fun k => ?_) (chg_l0 ds hl ds [] [] am rfl rfl (by omega) h1)
    unfold draw_Charge.f; rw [if_neg c, if_pos (by omega)]; rfl
theorem rcharge_f (ds : List S37) (hl : ds.length < 1000000) (am : Int) (h1 : am < 9223372036854775808) : Ev (fun k => prebendref11_Charge.f k ds am) (chargeS ds am) := by
  unfold chargeS
  by_cases c : am < 0
  · rw [if_pos c]; exact Ev.congr (f := fun _ => some ([], 1)) (fun k => by unfold prebendref11_Charge.f; rw [if_pos c]) (Ev.now _)
  · rw [if_neg c]
    refine Ev.congr (fun k => ?_) (rchg_l0 ds hl ds [] [] am rfl rfl (by omega) h1)
    unfold prebendref11_Charge.f; rw [if_neg c]; rfl
theorem total_l0 (ds : List S37) (hl : ds.length < 1000000) : ∀ (r pre : List S37), ds = pre ++ r → Ev (fun k => draw_Total.l0 k (pre.map (·.f1)) ds (ds.length : Int) (pre.length : Int)) (addS 0 (ds.map (·.f1)))
  | [], pre, hd => by
    rw [List.append_nil] at hd
    subst hd
    refine Ev.step (f := fun k => (money_Add.f k (ds.map (·.f1))).bind fun t => some (t.1, t.2)) (fun k => ?_) (Ev.bind (a := addS 0 (ds.map (·.f1))) ⟨ds.length + 1, fun k hk => add_eq _ (by simp; omega) k (by simp; omega)⟩ (Ev.now _))
    simp only [draw_Total.l0]
    rw [if_neg (by omega)]
  | d :: r, pre, hd => by
    have hdl : ds.length = pre.length + r.length + 1 := by rw [hd]; simp; omega
    have hx : rd_T37 ds (pre.length : Int) = d := by rw [hd]; exact rd37_mid _ _ _ _ rfl
    have ih := total_l0 ds hl r (pre ++ [d]) (by rw [hd]; simp)
    refine Ev.step (fun k => ?_) ih
    simp only [draw_Total.l0]
    rw [if_pos (by omega), if_pos (by omega), if_pos (by omega), if_pos (by simp; omega), hx, show wrap64 ((pre.length : Int) + 1) = (((pre ++ [d]).length : Nat) : Int) by simp; unfold wrap64; omega]
    simp
theorem rtotal_l0 (ds : List S37) (hl : ds.length < 1000000) : ∀ (r pre : List S37), ds = pre ++ r → Ev (fun k => prebendref11_Total.l0 k ds (pre.map (·.f1)) (pre.length : Int)) (addS 0 (ds.map (·.f1)))
  | [], pre, hd => by
    rw [List.append_nil] at hd
    subst hd
    refine Ev.step (f := fun k => (prebendref01_Add.f k (ds.map (·.f1))).bind fun t => some (t.1, t.2)) (fun k => ?_) (Ev.bind (a := addS 0 (ds.map (·.f1))) ⟨ds.length + 1, fun k hk => Add_eq _ (by simp; omega) k (by simp; omega)⟩ (Ev.now _))
    simp only [prebendref11_Total.l0]
    rw [if_neg (by omega)]
  | d :: r, pre, hd => by
    have hdl : ds.length = pre.length + r.length + 1 := by rw [hd]; simp; omega
    have hx : rd_T37 ds (pre.length : Int) = d := by rw [hd]; exact rd37_mid _ _ _ _ rfl
    have ih := rtotal_l0 ds hl r (pre ++ [d]) (by rw [hd]; simp)
    refine Ev.step (fun k => ?_) ih
    simp only [prebendref11_Total.l0]
    rw [if_pos (by omega), if_pos (by omega), if_pos (by simp; omega), hx, show wrap64 ((pre.length : Int) + 1) = (((pre ++ [d]).length : Nat) : Int) by simp; unfold wrap64; omega]
    simp
theorem total_f (ds : List S37) (hl : ds.length < 1000000) : Ev (fun k => draw_Total.f k ds) (addS 0 (ds.map (·.f1))) := by
  simpa [draw_Total.f] using total_l0 ds hl ds [] rfl
theorem rtotal_f (ds : List S37) (hl : ds.length < 1000000) : Ev (fun k => prebendref11_Total.f k ds) (addS 0 (ds.map (·.f1))) := by
  simpa [prebendref11_Total.f] using rtotal_l0 ds hl ds [] rfl

theorem DrawCharges : prebendlaw11_DrawCharges.Pure := by
  intro l am _ ham
  have h1 : am < 9223372036854775808 := by have := i64_hi am ham; omega
  have hl : (l.take 40).length < 1000000 := by rw [List.length_take]; omega
  obtain ⟨K1, g1⟩ := charge_f _ hl am h1
  obtain ⟨K2, g2⟩ := rcharge_f _ hl am h1
  obtain ⟨K3, g3⟩ := total_f _ hl
  obtain ⟨K4, g4⟩ := rtotal_f _ hl
  obtain ⟨K5, g5⟩ := awake11
  obtain ⟨K6, g6⟩ := alike_f (chargeS (l.take 40) am).1 (by have := chargeS_len (l.take 40) am; omega)
  exact ⟨K1 + K2 + K3 + K4 + K5 + K6, _, _, _, _, g1 _ (by omega), g2 _ (by omega), g3 _ (by omega), g4 _ (by omega), g5 _ (by omega), g6 _ (by omega)⟩

end Go.Proofs.Ytlccomoiajnkmaa.Pure
end
section
namespace Go.Proofs.Ytlccomoiajnkmaa.Rd
open Go.ChangeShapes Go.WideShapes Go.Deep Go.RowKit Go.Proofs.YtlccomoiajnkmaaW.PrintWords
set_option linter.unusedVariables false
/-- Cells that are read as a value of type T stand for a plain value x of kind d, of which 'good' holds. -/
def Rds {α : Type} (P : Program) (d : Kd α) (T : TypeId) (good : α → Prop) : Prop :=
  ∀ (H : Type) (enc : TypeId × Value → H) (w : World) (base : Nat) (spare : Nat → Bool) (held : Bool) (n : Nat) (cs : List Value) (y : DataW H × List MemPlace),
    DataW.trod enc P w base spare held n T cs = some y → ∃ x, d.K w x cs ∧ good x
theorem rds_int {P : Program} {T : TypeId} {k : IntKind} (ht : P.underlying T = some (.int k)) : Rds P (Kd.int k) T (fun x => (Lit.int k x).wf = true) := by
  intro H enc w base spare held n cs y h
  obtain ⟨m, rfl, _, hw⟩ := DataW.trod_int ht h
  exact ⟨m, rfl, hw⟩
theorem rds_bool {P : Program} {T : TypeId} (ht : P.underlying T = some .bool) : Rds P Kd.bool T (fun _ => True) := by
  intro H enc w base spare held n cs y h
  obtain ⟨m, rfl, _⟩ := DataW.trod_bool ht h
  exact ⟨m, rfl, trivial⟩
theorem rds_string {P : Program} {T : TypeId} (ht : P.underlying T = some .string) : Rds P Kd.string T (fun s => s.size ≤ maxLen) := by
  intro H enc w base spare held n cs y h
  obtain ⟨m, rfl, _, hw⟩ := DataW.trod_string ht h
  exact ⟨m, rfl, hw⟩
theorem rds_slice {α : Type} {P : Program} {d : Kd α} {T e : TypeId} {good : α → Prop} (ht : P.underlying T = some (.slice e)) (hc : P.cellsOf e = d.sz) (hr : Rds P d e good) :
    Rds P (Kd.slice e d) T (fun xs => xs.length ≤ maxLen ∧ ∀ x ∈ xs, good x) := by
  intro H enc w base spare held n cs y h
  rcases open_slice ht h with ⟨rfl, _⟩ | ⟨a, len, cap, m, n', D, Pl, rfl, hb, hl, hm, hmm, _, hi⟩
  · exact ⟨[], ⟨none, 0, rfl, Nat.le_refl _, rfl, by simp, fun h0 => absurd h0 (by simp)⟩, by simp, by simp⟩
  · have hlm : len ≤ m := by rw [hmm]; split <;> omega
    have step : ∀ l, l ≤ len → ∃ xs : List α, xs.length = l ∧ (∀ x ∈ xs, good x) ∧ ∀ j p, xs[j]? = some p → ∃ c, w.cells? base (a.add (j * d.sz)) d.sz = some c ∧ d.K w p c := by
      intro l
      induction l with
      | zero => intro _; exact ⟨[], rfl, by simp, by simp⟩
      | succ l ih =>
        intro hl1
        obtain ⟨xs, hx, hg, hj⟩ := ih (by omega)
        obtain ⟨c, h1, h2⟩ := hi l (by omega)
        obtain ⟨x, k, g⟩ := hr _ _ _ _ _ _ _ _ _ h2
        rw [hc] at h1
        refine ⟨xs ++ [x], by simp [hx], ?_, ?_⟩
        · intro z hz
          rcases List.mem_append.1 hz with hz | hz
          · exact hg z hz
          · rw [List.mem_singleton.1 hz]; exact g
        · intro j p hp
          rcases Nat.lt_or_ge j xs.length with hlt | hge
          · rw [List.getElem?_append_left hlt] at hp; exact hj j p hp
          · have hjl : j = l := by
              have := (List.getElem?_eq_some_iff.1 hp).1
              rw [List.length_append, List.length_singleton] at this
              omega
            subst hjl
            rw [List.getElem?_append_right hge, hx, Nat.sub_self] at hp
            simp at hp
            subst hp
            exact ⟨c, h1, k⟩
    obtain ⟨xs, hx, hg, hj⟩ := step len (Nat.le_refl _)
    refine ⟨xs, ⟨some a, cap, by rw [hx], by omega, rfl, by rw [hx]; unfold maxLen at hm; omega, fun _ => ⟨a, rfl, fun j p hp => ?_⟩⟩, by rw [hx]; omega, hg⟩
    obtain ⟨c, h1, k⟩ := hj j p hp
    refine ⟨c, d.K_len k, k, fun i u hu => ?_⟩
    obtain ⟨_, hcl, hat⟩ := World.cells?_some h1
    have hil : i < d.sz := by have := (List.getElem?_eq_some_iff.1 hu).1; omega
    rw [← Go.Deep.add_add, hat i hil, hu]
/-- Two kinds in line. -/
theorem pair_mk {α β : Type} {a : Kd α} {b : Kd β} {w : World} {x : α} {y : β} {cs : List Value} {o : Nat} (h1 : a.K w x ((cs.drop o).take a.sz)) (h2 : b.K w y (cs.drop (o + a.sz))) : (Kd.pair a b).K w (x, y) (cs.drop o) :=
  ⟨_, _, by rw [← List.drop_drop]; exact (List.take_append_drop a.sz (cs.drop o)).symm, h1, h2⟩
theorem last_mk {α : Type} {a : Kd α} {w : World} {x : α} {cs : List Value} {o : Nat} (hl : cs.length = o + a.sz) (h1 : a.K w x ((cs.drop o).take a.sz)) : a.K w x (cs.drop o) := by
  rwa [List.take_of_length_le (by rw [List.length_drop]; omega)] at h1
/-- A struct's field. -/
theorem field {H : Type} {enc : TypeId × Value → H} {P : Program} {w : World} {base : Nat} {spare : Nat → Bool} {held : Bool} {n : Nat} {cs : List Value} {fs : Array Field} {xs : List (DataW H × List MemPlace)} (hx : xs.length = fs.size)
    (hf : ∀ (i : Nat) (f : Field), fs[i]? = some f → DataW.trod enc P w base spare held n f.type ((cs.drop f.offset).take (P.cellsOf f.type)) = xs[i]?)
    (i : Nat) (f : Field) (hi : fs[i]? = some f) {α : Type} {d : Kd α} {good : α → Prop} {o T : Nat} (ho : f.offset = o) (hT : f.type = T) (hc : P.cellsOf T = d.sz) (hr : Rds P d T good) : ∃ x, d.K w x ((cs.drop o).take d.sz) ∧ good x := by
  have h := hf i f hi
  have hlt : i < xs.length := by rw [hx]; exact (Array.getElem?_eq_some_iff.1 hi).1
  rw [List.getElem?_eq_getElem hlt, ho, hT, hc] at h
  exact hr _ _ _ _ _ _ _ _ _ h
end Go.Proofs.Ytlccomoiajnkmaa.Rd
end
section
namespace Go.Proofs.Ytlccomoiajnkmaa.drawCharges
open Go.ChangeShapes Go.WideShapes Go.ChangeAt Go.RowKit Go.Proofs.YtlccomoiajnkmaaW.PrintWords Go.Proofs.Ytlccomoiajnkmaa.PAll
open Go.ChangeMaps (open_string shut_string)
set_option linter.unusedVariables false
theorem own : ownKnob Try.prog.godebug = none := by kernel_rfl
theorem laidOut : laidOutB Try.prog = true := by kernel_rfl
theorem rds37 : Rd.Rds Try.prog k37 37 g37 := by
  intro H enc w base spare held n cs y h
  obtain ⟨xs, m, _, _, hlen, hxl, hf⟩ := DataW.trod_struct Try.underlying37 h
  have hl : cs.length = 2 := hlen.trans (by kernel_rfl)
  obtain ⟨x0, h0, g0_⟩ := Rd.field hxl hf 0 _ rfl (d := (Kd.int .i64)) (good := (fun x => (Lit.int .i64 x).wf = true)) (o := 0) (T := 3) rfl rfl (by kernel_rfl) (Rd.rds_int Try.underlying3)
  obtain ⟨x1, h1, g1_⟩ := Rd.field hxl hf 1 _ rfl (d := (Kd.int .i64)) (good := (fun x => (Lit.int .i64 x).wf = true)) (o := 1) (T := 3) rfl rfl (by kernel_rfl) (Rd.rds_int Try.underlying3)
  have hK := (Rd.pair_mk (o := 0) h0 (Rd.last_mk (a := (Kd.int .i64)) (o := 1) hl h1))
  exact ⟨⟨x0, x1⟩, (by rw [List.drop_zero] at hK; exact hK), ⟨g0_, g1_⟩⟩
set_option maxRecDepth 100000 in
theorem lifted (os : Os) (started : os.Started) (H : Type) (enc : TypeId × Value → H) :
    ReturnsInHanded {} Try.checked os 6 .any (Rows.drawChargesSpec.pre6 enc Try.prog Try.f6 Rows.drawChargesRow.domain false) (Rows.drawChargesSpec.post enc Try.prog Try.f6 false true false false) := by
  refine returnsInHanded_of_change_sized (C := Try.checked) own started (by kernel_rfl) Try.func6
    (ChangeSpec.witness6 (enc := enc) (C := Try.checked) false ⟨#[], #[.slice none 0 0, .int .i64 0], []⟩ 8 (by kernel_rfl) (by kernel_rfl) (by kernel_rfl) (by kernel_rfl)) ?_
  intro W base args ds gs before hval0 hW hcnd hsz0 _
  have hval : ∀ (j : Nat) t v, Try.f6.params[j]? = some t → args[j]? = some v → Value.okWide Try.prog W .any base t v := hval0
  have hW' := hW
  obtain ⟨p, q, hA0, hV, rfl, hfz, hnd⟩ := hW
  have hA : DataW.TrodAll enc Try.prog W 0 (fun _ => true) true Try.f6.params.toList args.toList ds p := hA0
  rw [Try.params6] at hA hval
  obtain ⟨v0, vs0, d0, ds0, p0, q0, hargs, rfl, rfl, h0, r0⟩ := trodAll_cons hA
  obtain ⟨v1, vs1, d1, ds1, p1, q1, rfl, rfl, rfl, h1, r1⟩ := trodAll_cons r0
  obtain ⟨rfl, rfl, rfl⟩ := trodAll_nil r1
  obtain rfl : args = #[v0, v1] := by cases args; simp_all
  obtain ⟨rfl, rfl⟩ := trodVars_none hV
  obtain ⟨a0, len0, cap0, rfl⟩ := okWide_slice Try.underlying26 (hval 0 26 v0 rfl rfl)
  have k0 := h0
  have lt0 : ∀ x ∈ p0, x.block < W.heap.size := by obtain ⟨m, hm⟩ := k0; exact DataW.trod_lt m _ _ _ hm
  obtain ⟨l0, ⟨A0, c0, he0, hl0, hC0⟩, g0_⟩ : ∃ xs, ((Kd.slice 37 k37)).K W xs [.slice a0 len0 cap0] ∧ (fun x => (x.length ≤ maxLen ∧ ∀ y ∈ x, g37 y)) xs := by
    obtain ⟨fuel, hf⟩ := h0
    exact (Rd.rds_slice (P := Try.prog) (T := 26) Try.underlying26 (by kernel_rfl) rds37) _ _ _ _ _ _ _ _ _ hf
  obtain ⟨rfl, rfl, rfl⟩ : a0 = A0 ∧ len0 = l0.length ∧ cap0 = c0 := by simpa using he0
  obtain ⟨a1, rfl, rfl, rfl, w1⟩ := open_int Try.underlying3 (hval 1 3 v1 rfl rfl) h1
  clear hA0 hval0 hsz0
  refine (PAll.prebendlaw11_DrawCharges.walk Pure.DrawCharges _ _ l0 a1 W hC0 hl0 g0_ w1).mono fun e W' ⟨he, bel⟩ => ?_
  subst he
  exact ⟨_, rfl, _, _, _, [], _, [], hW', trodAll_mk1 (shut_bool Try.underlying4 _), (trodAll_cons_mk (Below.trod laidOut (by kernel_rfl) (of_decide_eq_true (by kernel_rfl)) k0 bel lt0) (trodAll_cons_mk (shut_int Try.underlying3 w1) trodAll_mk0)), rfl, bel.frame _, fun h => by cases h⟩
theorem over : Rows.drawChargesRow.holds Try.pinned (OpenSpec.ofChange Rows.drawChargesSpec) :=
  OpenClaim.holds_of_wide 6 Try.f6 rfl rfl rfl rfl rfl rfl rfl ⟨rfl, rfl, rfl, rfl, rfl⟩ rfl rfl rfl rfl rfl (by kernel_rfl) Try.func6 (by kernel_rfl)
    (of_decide_eq_true (by kernel_rfl)) (by unfold Func.isWrapper; first | (rw [if_pos (by decide +kernel)]; kernel_rfl) | (rw [if_neg (by decide +kernel)]; exact ⟨rfl, rfl⟩))
    (fun os started H enc _ => lifted os started H enc)
theorem proved : Rows.DrawChargesSaid := over
#print axioms proved
end Go.Proofs.Ytlccomoiajnkmaa.drawCharges
namespace Go.Proofs.Ytlccomoiajnkmaa
/-- The row, under a short name, for the claim. -/
theorem drawCharges_holds : Rows.DrawChargesSaid := drawCharges.proved
end Go.Proofs.Ytlccomoiajnkmaa
end
