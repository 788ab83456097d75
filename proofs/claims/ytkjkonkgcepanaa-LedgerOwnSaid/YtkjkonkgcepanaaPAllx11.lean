/- Contracts of functions of the program, each with a plain function of the same answers; written by a program of this workplace. -/
import Derived.Test.YtkjkonkgcepanaaPAllx0
import Derived.Test.YtkjkonkgcepanaaPAllx2
import Derived.Test.YtkjkonkgcepanaaPAllx3
import Derived.Test.YtkjkonkgcepanaaPAllx5
import Derived.Test.YtkjkonkgcepanaaPAllx6
import Derived.Test.YtkjkonkgcepanaaPAllx7
import Derived.Test.YtkjkonkgcepanaaPAllx8
import Derived.Test.YtkjkonkgcepanaaPAllx10
import Derived.Test.YtkjkonkgcepanaaPAllx19
namespace Go.Proofs.Ytkjkonkgcepanaa.PAll
open Go.RowKit Go.Proofs.YtkjkonkgcepanaaW.PrintWords Go.Proofs.YtkjkonkgcepanaaW.PrintLast Go.Proofs.YtkjkonkgcepanaaW.PrintMore
attribute [local go_sem] max2_int min2_int max_two min_two max_three min_three max_four min_four   -- for this text's walks alone
set_option linter.unusedVariables false
set_option linter.unusedSimpArgs false

/-! ### ledger_Post: function 8 -/
-- beside ledger_place.calls, ledger_Amount.calls, ledger_may.calls, slices_Clip_Alloc.calls, slices_Clone_Alloc.calls, ledger_amounts.calls, money_Add.calls, slices_Concat_int.calls
theorem clip_at (A : Option Addr) (n c : Nat) (w : World) (hc : n ≤ c) :
    Calls Try.prog 19 #[.slice A n c] w fun e w' => e = .returned (.slice A n n) ∧ w' = w := by
  have hcut := slices_Clip_Alloc.cut A n c hc
  go_enter Try.func19, Try.ntmps19
  go_wp2
  go_ret
  exact ⟨rfl, rfl⟩
/-- Where an account's amount lies in its row. -/
def offOf (acct : Int) : Nat := ((acct - 1) / 3).toNat * 6 + 3 + ((acct - 1) % 3).toNat
def withField (x : S39) (m v : Int) : S39 := if m = 0 then ⟨x.f0, x.f1, x.f2, v, x.f4, x.f5⟩ else if m = 1 then ⟨x.f0, x.f1, x.f2, x.f3, v, x.f5⟩ else ⟨x.f0, x.f1, x.f2, x.f3, x.f4, v⟩
def setAcct (l : List S39) (a v : Int) : List S39 := l.set ((a - 1) / 3).toNat (withField (rd_T39 l ((a - 1) / 3)) ((a - 1) % 3) v)
theorem place_in (q : Addr) (g n c : Nat) (acct : Int) (w : World) (h0 : 0 < acct) (h1 : acct ≤ 3 * (n : Int)) (hn : n < 1000000) :
    Calls Try.prog 22 #[.pointer (some q), .slice (some ⟨g, 0, none⟩) n c, .int .i64 acct] w fun e w' => e = .returned (.pointer (some ⟨g, offOf acct, none⟩)) ∧ Below w.heap.size w w' := by
  obtain ⟨j, hj⟩ : ∃ j : Nat, (acct - 1) / 3 = (j : Int) := ⟨((acct - 1) / 3).toNat, by omega⟩
  have hm : (acct - 1) % 3 = 0 ∨ (acct - 1) % 3 = 1 ∨ (acct - 1) % 3 = 2 := by omega
  have ho : offOf acct = j * 6 + 3 + ((acct - 1) % 3).toNat := by unfold offOf; rw [hj]; simp
  rcases hm with hm | hm | hm
  · have := place_at0 (some q) ⟨g, 0, none⟩ n c acct j w (by omega) (by omega) hn
    rw [add_plain] at this; rw [ho, hm]; exact this
  · have := place_at1 (some q) ⟨g, 0, none⟩ n c acct j w (by omega) (by omega) hn
    rw [add_plain] at this; rw [ho, hm]; exact this
  · have := place_at2 (some q) ⟨g, 0, none⟩ n c acct j w (by omega) (by omega) hn
    rw [add_plain] at this; rw [ho, hm]; exact this
theorem acct_cell {W : World} {base g n c : Nat} {ok : Nat → Prop} {l : List S39} (h : Kd.R k39 39 W base ok (.slice (some ⟨g, 0, none⟩) n c) l) (acct : Int) (h0 : 0 < acct) (h1 : acct ≤ 3 * (n : Int)) :
    W.cell? ⟨g, offOf acct, none⟩ = some (.int .i64 (fieldOf (rd_T39 l ((acct - 1) / 3)) ((acct - 1) % 3))) ∧ W.frozen? ⟨g, offOf acct, none⟩ = false := by
  obtain ⟨cs, hcl, hM, hc, hf⟩ := Kd.R_elem h z39 ((acct - 1) / 3) (by omega) (by omega)
  have hcs := k39_openM hM
  have hm : (acct - 1) % 3 = 0 ∨ (acct - 1) % 3 = 1 ∨ (acct - 1) % 3 = 2 := by omega
  have hsz : k39.sz = 6 := rfl
  rw [hsz] at hc hf
  have e : ∀ m, offOf acct = ((acct - 1) / 3).toNat * 6 + (3 + m) ↔ ((acct - 1) % 3).toNat = m := by intro m; unfold offOf; omega
  rcases hm with hm | hm | hm
  · have e0 := (e 0).2 (by rw [hm]; rfl)
    rw [e0, hm]; exact ⟨hc 3 _ (by rw [hcs]; rfl), hf 3⟩
  · have e0 := (e 1).2 (by rw [hm]; rfl)
    rw [e0, hm]; exact ⟨hc 4 _ (by rw [hcs]; rfl), hf 4⟩
  · have e0 := (e 2).2 (by rw [hm]; rfl)
    rw [e0, hm]; exact ⟨hc 5 _ (by rw [hcs]; rfl), hf 5⟩
theorem acct_store {W : World} {base g n c : Nat} {ok : Nat → Prop} {l : List S39} (h : Kd.R k39 39 W base ok (.slice (some ⟨g, 0, none⟩) n c) l) (acct : Int) (h0 : 0 < acct) (h1 : acct ≤ 3 * (n : Int)) (v : Int) :
    Kd.R k39 39 (W.setCell ⟨g, offOf acct, none⟩ (.int .i64 v)) base ok (.slice (some ⟨g, 0, none⟩) n c) (setAcct l acct v) ∧ W.grownBy (W.setCell ⟨g, offOf acct, none⟩ (.int .i64 v)) (some g) := by
  obtain ⟨cs, hcl, hM, hc, hf⟩ := Kd.R_elem h z39 ((acct - 1) / 3) (by omega) (by omega)
  have hcs := k39_openM hM
  have hm : (acct - 1) % 3 = 0 ∨ (acct - 1) % 3 = 1 ∨ (acct - 1) % 3 = 2 := by omega
  have e : ∀ m, offOf acct = ((acct - 1) / 3).toNat * k39.sz + (3 + m) ↔ ((acct - 1) % 3).toNat = m := by intro m; have hsz : k39.sz = 6 := rfl; rw [hsz]; unfold offOf; omega
  have key : ∀ (m : Nat) (x' : S39), ((acct - 1) % 3).toNat = m → m < 3 → (cs.take (3 + m) ++ [.int .i64 v] ++ cs.drop (3 + m + 1) = [.int .i64 x'.f0, .int .i64 x'.f1, .int .i64 x'.f2, .int .i64 x'.f3, .int .i64 x'.f4, .int .i64 x'.f5]) →
      Kd.R k39 39 (W.setCell ⟨g, offOf acct, none⟩ (.int .i64 v)) base ok (.slice (some ⟨g, 0, none⟩) n c) (l.set ((acct - 1) / 3).toNat x') ∧ W.grownBy (W.setCell ⟨g, offOf acct, none⟩ (.int .i64 v)) (some g) := by
    intro m x' hm2 hlt heq
    have := Kd.R_seg h ((acct - 1) / 3) (by omega) (by omega) hcl hc (seg := [.int .i64 v]) (j := 3 + m) (by have hsz : k39.sz = 6 := rfl; rw [hsz]; simp; omega) (x' := x') (okp := fun k => ok k ∧ k ≠ g) (by
      show k39.M W base _ x' (cs.take (3 + m) ++ [.int .i64 v] ++ cs.drop (3 + m + 1))
      rw [heq]; exact k39_mkM _ _ _ x') (fun k hk => hk)
    rw [(e m).2 hm2]
    simpa [World.setCells] using this
  unfold setAcct withField
  rcases hm with hm | hm | hm
  · rw [hm]; exact key 0 _ (by rw [hm]; rfl) (by omega) (by rw [hcs]; rfl)
  · rw [hm]; exact key 1 _ (by rw [hm]; rfl) (by omega) (by rw [hcs]; rfl)
  · rw [hm]; exact key 2 _ (by rw [hm]; rfl) (by omega) (by rw [hcs]; rfl)
theorem lit_two (W : World) (x : Int) (A : Option Addr) (n c : Nat) :
    let W2 := (W.alloc (.cells #[.int .i64 x] 3 (0, 0))).alloc (.cells #[.slice (some ⟨W.heap.size, 0, none⟩) 1 1, .slice A n c] 40 (0, 0))
    W.heap.size + 1 < W2.heap.size ∧ W2.cell? ⟨W.heap.size + 1, 0, none⟩ = some (.slice (some ⟨W.heap.size, 0, none⟩) 1 1) ∧ W2.cell? ⟨W.heap.size + 1, 1, none⟩ = some (.slice A n c) ∧ Kd.C (Kd.int .i64) W2 (some ⟨W.heap.size, 0, none⟩) 1 [x] := by
  have b1 : (W.alloc (.cells #[.int .i64 x] 3 (0, 0))).heap[W.heap.size]? = some (.cells #[.int .i64 x] 3 (0, 0)) := heap_alloc_new W _
  have b1' := blk_alloc b1 (.cells #[.slice (some ⟨W.heap.size, 0, none⟩) 1 1, .slice A n c] 40 (0, 0))
  have b2 := heap_alloc_new (W.alloc (.cells #[.int .i64 x] 3 (0, 0))) (.cells #[.slice (some ⟨W.heap.size, 0, none⟩) 1 1, .slice A n c] 40 (0, 0))
  have hs : (W.alloc (.cells #[.int .i64 x] 3 (0, 0))).heap.size = W.heap.size + 1 := by simp
  rw [hs] at b2
  refine ⟨by simp, (blk_cell b2 0).trans rfl, (blk_cell b2 1).trans rfl, rfl, by omega, fun _ => ⟨_, rfl, ?_⟩⟩
  intro j p hp
  have hj : j = 0 := by
    rcases j with _ | j
    · rfl
    · simp at hp
  subst hj
  obtain rfl : x = p := by simpa using hp
  refine ⟨[.int .i64 x], rfl, rfl, ?_⟩
  intro i u hu
  have hi : i = 0 := by
    rcases i with _ | i
    · rfl
    · simp at hu
  subst hi
  obtain rfl : Value.int .i64 x = u := by simpa using hu
  simp [Addr.add, World.cell?, b1']
/-- What a posting holds as it goes: the amounts, the world's amount. -/
structure Led (w : World) (v : Value) (wd : Int) (out : List S39) (W : World) : Prop where
  row : Kd.R k39 39 W w.heap.size (fun k => k ≠ w.heap.size) v out
  box : W.heap[w.heap.size]? = some (.cells #[.int .i64 wd] 3 (0, 0))
  below : Below w.heap.size w W
theorem Led.go {w : World} {v : Value} {wd : Int} {out : List S39} {W W' : World} (h : Led w v wd out W) (hb : Below W.heap.size W W') : Led w v wd out W' :=
  ⟨Kd.R_below h.row hb, blk_below h.box hb, h.below.trans (hb.mono h.below.size)⟩
theorem Led.cell {w : World} {v : Value} {wd : Int} {out : List S39} {W : World} (h : Led w v wd out W) : W.cell? ⟨w.heap.size, 0, none⟩ = some (.int .i64 wd) ∧ W.frozen? ⟨w.heap.size, 0, none⟩ = false :=
  ⟨(blk_cell h.box 0).trans rfl, blk_frozen h.box 0⟩
theorem Led.put {w : World} {v : Value} {wd : Int} {out : List S39} {W : World} (h : Led w v wd out W) (s : Int) : Led w v s out (W.setCell ⟨w.heap.size, 0, none⟩ (.int .i64 s)) :=
  ⟨Kd.R_far h.row (fun k hk => hk) _, blk_put h.box 0 _ rfl, below_set h.below (Nat.le_refl _)⟩
theorem Led.set {w : World} {g n c : Nat} {wd : Int} {out : List S39} {W : World} (h : Led w (.slice (some ⟨g, 0, none⟩) n c) wd out W) (acct : Int) (h0 : 0 < acct) (h1 : acct ≤ 3 * (n : Int)) (s : Int) : Led w (.slice (some ⟨g, 0, none⟩) n c) wd (setAcct out acct s) (W.setCell ⟨g, offOf acct, none⟩ (.int .i64 s)) := by
  obtain ⟨hr, hg⟩ := acct_store h.row acct h0 h1 s
  have hne : g ≠ w.heap.size := h.row.1 g rfl
  exact ⟨hr, blk_far h.box (Ne.symm hne) _, below_set h.below (Kd.R_base h.row g rfl)⟩
theorem place_world0 (p : Option Addr) (A : Option Addr) (n c : Nat) (w : World) :
    Calls Try.prog 22 #[.pointer p, .slice A n c, .int .i64 0] w fun e w' => e = .returned (.pointer p) ∧ Below w.heap.size w w' :=
  (place_world p A n c w).mono fun e w' h => ⟨h.1, h.2 ▸ Below.refl _ _⟩
def ledger_Post.l0 : Nat → List S37 → Int → List S39 → Int → Option (Int × List S39 × Int)
  | 0, _, _, _, _ => none
  | k + 1, l2, wd, out, i => if i < 1 + 3 * (out.length : Int) then (if 0 ≤ i then ((ledger_amounts.f k l2 false i).bind fun t => if t.length = 0 then ledger_Post.l0 k l2 wd out (wrap64 (i + 1)) else if t.length < 1000 then ((money_Add.f k (acctOf wd out i :: t)).bind fun p => if p.2 = 0 then (if (0 < i ∧ p.1 < 0) ∨ (i = 0 ∧ 0 < p.1) then some (0, [], 7) else ledger_Post.l0 k l2 (if i = 0 then p.1 else wd) (if i = 0 then out else setAcct out i p.1) (wrap64 (i + 1))) else some (0, [], p.2)) else none) else none) else some (wd, out, 0)
def ledger_Post.f (k : Nat) (a0 : Int) (l1 : List S39) (l2 : List S37) : Option (Int × List S39 × Int) := if (l1.length : Int) < 1000000 then ((ledger_may.f k a0 l1 l2).bind fun e => if e = 0 then ledger_Post.l0 k l2 a0 l1 0 else some (0, [], e)) else none
theorem ledger_Post.mono_l : ∀ k y0 y1 y2 y3, LeO (ledger_Post.l0 k y0 y1 y2 y3) (ledger_Post.l0 (k + 1) y0 y1 y2 y3)
  | 0 => fun _ _ _ _ r h => by simp [ledger_Post.l0] at h
  | k + 1 => by
    have ih := ledger_Post.mono_l k
    · intro y0 y1 y2 y3
      unfold ledger_Post.l0
      repeat' first
      | (with_reducible exact ih _ _ _ _)
      | (with_reducible exact ledger_amounts.mono _ _ _ _)
      | (with_reducible exact money_Add.mono _ _)
      | (with_reducible exact LeO.refl _)
      | (with_reducible exact LeO.none _)
      | (with_reducible refine LeO.ite ?_ ?_)
      | (with_reducible refine LeO.bind ?_ (fun _ => ?_))
      | exact LeO.none _
      | refine LeO.ite ?_ ?_
      | exact LeO.refl _
theorem ledger_Post.mono : ∀ a0 a1 a2 k, LeO (ledger_Post.f k a0 a1 a2) (ledger_Post.f (k + 1) a0 a1 a2) := by
  intro a0 a1 a2 k
  unfold ledger_Post.f
  repeat' first
      | (with_reducible exact ledger_may.mono _ _ _ _)
      | (with_reducible exact ledger_Post.mono_l _ _ _ _ _)
      | (with_reducible exact LeO.refl _)
      | (with_reducible exact LeO.none _)
      | (with_reducible refine LeO.ite ?_ ?_)
      | (with_reducible refine LeO.bind ?_ (fun _ => ?_))
      | exact LeO.none _
      | refine LeO.ite ?_ ?_
      | exact LeO.refl _
set_option maxHeartbeats 8000000 in
set_option maxRecDepth 100000 in
theorem ledger_Post.calls (k : Nat) (a0 : Int) (A1 : Option Addr) (c1 : Nat) (l1 : List S39) (A2 : Option Addr) (c2 : Nat) (l2 : List S37) (r1 : Int) (r2 : List S39) (r3 : Int) (w : World) (hr1 : Kd.C k39 w A1 l1.length l1) (hc1 : l1.length ≤ c1) (hr2 : Kd.C k37 w A2 l2.length l2) (hc2 : l2.length ≤ c2) (h : ledger_Post.f k a0 l1 l2 = some (r1, r2, r3)) :
    Calls Try.prog 8 #[.int .i64 a0, .slice A1 l1.length c1, .slice A2 l2.length c2] w fun e w' => ∃ v1_ : Value, e = .returned (.tuple #[.int .i64 r1, v1_, .int .i64 r3]) ∧ Kd.V k39 39 w' w.heap.size (fun k_ => (w.heap.size ≤ k_)) v1_ r2 ∧ Below w.heap.size w w' := by
  have HR1 := Aside0.mk hr1
  have HC1 := Aside0.mk hc1
  have HR2 := Aside0.mk hr2
  have HC2 := Aside0.mk hc2
  unfold ledger_Post.f at h
  by_cases c0 : (l1.length : Int) < 1000000
  · rw [if_pos c0] at h
    obtain ⟨er, he, h⟩ := Option.bind_eq_some_iff.1 h
    have HE := Aside0.mk he
    have HF := Aside0.mk (clone_f l1 c0)
    have HN := Aside0.mk c0
    clear hr1 hc1 hr2 hc2 he c0
    by_cases c1e : er = 0
    · rw [if_pos c1e] at h
      subst c1e
      have H' := Aside0.mk h
      clear h
      go_enter Try.func8, Try.ntmps8
      go_wp2_with (first | (go_at_call 18; with_reducible refine (ledger_may.calls k a0 A1 c1 l1 A2 c2 l2 0 _ (Kd.C_below HR1.out (below_alloc (Below.refl _ _) _)) HC1.out (Kd.C_below HR2.out (below_alloc (Below.refl _ _) _)) HC2.out HE.out).mono ?_; rintro e w1 ⟨rfl, hb⟩; have hbx : w1.heap[w.heap.size]? = some (.cells #[.int .i64 a0] 3 (0, 0)) := blk_below (heap_alloc_new w _) hb; have BX := Aside0.mk hbx; have HB := Aside0.mk ((below_alloc (Below.refl w.heap.size w) _).trans (hb.mono (by simp))); clear hb hbx) | (go_at_call 20; (with_reducible refine (slices_Clone_Alloc.calls A1 c1 l1 l1 _ (Kd.C_below HR1.out HB.out) HC1.out HF.out).mono ?_; rintro e w2 ⟨v, rfl, ho, hb⟩; have hbx2 := blk_below BX.out hb; have HLED := Aside0.mk (show Led w v a0 l1 w2 from ⟨Kd.R_mono (Kd.R_types (Kd.R_lower ho HB.out.size) hbx2 (by decide)) (fun k hk => hk.2), hbx2, HB.out.trans (hb.mono HB.out.size)⟩); obtain ⟨A, c, rfl, hcc, hC⟩ := Kd.R_reads ho; have HCC := Aside0.mk hcc; clear ho hb hcc hC hbx2)) | (go_at_call 19; with_reducible refine (clip_at A l1.length c _ HCC.out).mono ?_; rintro e w3 ⟨rfl, rfl⟩; clear BX HB))
      have HLED2 := Aside0.mk (show ∃ c, Led w (.slice A l1.length c) a0 l1 _ from ⟨c, HLED.out⟩)
      clear HLED HCC
      go_loopg [30] k (fun kq v30 wc => ∃ (x30 : Int) (wd : Int) (out : List S39), v30 = .int .i64 x30 ∧ Aside0 (ledger_Post.l0 kq l2 wd out x30 = some (r1, r2, r3)) ∧ Aside0 (out.length = l1.length) ∧ Aside0 (∃ c, Led w (.slice A l1.length c) wd out wc))
      case atStart => exact ⟨0, a0, l1, rfl, H', ⟨rfl⟩, HLED2⟩
      case round =>
        clear H' HLED2
        obtain ⟨x30, wd, out, rfl, HH, HO, HLED0⟩ := hrel
        obtain ⟨cc, hled⟩ := HLED0.out
        have HLED := Aside0.mk hled
        clear HLED0 hled
        have E : Aside0 (wrap64 (1 + wrap64 (3 * (l1.length : Int))) = 1 + 3 * (l1.length : Int)) := ⟨by have := HN.out; unfold wrap64; omega⟩
        cases gk with
        | zero => exact absurd HH.out (by simp [ledger_Post.l0])
        | succ k1 =>
          have H := HH.out
          clear HH
          simp only [ledger_Post.l0] at H
          rw [show ((out.length : Nat) : Int) = (l1.length : Int) by rw [HO.out]] at H
          by_cases c3 : x30 < 1 + 3 * (l1.length : Int)
          · rw [if_pos c3] at H
            have c3b : decide (x30 < wrap64 (1 + wrap64 (3 * (l1.length : Int)))) = true := by rw [E.out]; exact decide_eq_true c3
            have c3c := Aside0.mk c3
            clear c3
            by_cases c4 : 0 ≤ x30
            · rw [if_pos c4] at H
              have c4c := Aside0.mk c4
              clear c4
              obtain ⟨t, ht, H⟩ := Option.bind_eq_some_iff.1 H
              have HT := Aside0.mk ht
              clear ht
              by_cases c5 : t.length = 0
              · rw [if_pos c5] at H
                have c5b : ((t.length : Int) == 0) = true := beq_iff_eq.mpr (by omega)
                have c5c : t = [] := List.length_eq_zero_iff.mp c5
                have H' := Aside0.mk H
                clear H c5
                subst c5c
                go_wp2_with (go_at_call 21; with_reducible refine (ledger_amounts.calls k1 _ c2 l2 false x30 [] _ (Kd.C_below HR2.out HLED.out.below) HC2.out HT.out).mono ?_; rintro e w1 ⟨v, rfl, ho, hb⟩; obtain ⟨A3, c3, rfl, hcc, hC⟩ := Kd.R_reads ho; have HL2 := Aside0.mk (HLED.out.go hb); clear ho hb hcc hC)
                go_roundg k1
                case measure => omega
                case rel => exact ⟨wrap64 (x30 + 1), wd, out, (by first | rfl | (simp; done)), H', HO, ⟨_, HL2.out⟩⟩
              · rw [if_neg c5] at H
                have c5b : ((t.length : Int) == 0) = false := beq_eq_false_iff_ne.mpr (by omega)
                have c5c : ¬ t = [] := fun e => c5 (by rw [e]; rfl)
                clear c5
                by_cases c6 : t.length < 1000
                · rw [if_pos c6] at H
                  have HTL := Aside0.mk c6
                  clear c6
                  obtain ⟨⟨s, er⟩, hs, H⟩ := Option.bind_eq_some_iff.1 H
                  have HS := Aside0.mk hs
                  clear hs
                  by_cases z : x30 = 0
                  · subst z
                    have HX0 : acctOf wd out 0 = wd := rfl
                    rw [HX0] at HS
                    obtain ⟨xt, hx⟩ : ∃ y, y = wd :: t := ⟨_, rfl⟩
                    rw [← hx] at HS
                    have HX := Aside0.mk hx
                    clear hx HX0
                    by_cases d1 : er = 0
                    · simp only [d1, if_true] at H
                      have d1b : (er != 0) = false := by simp [d1]
                      by_cases d2 : 0 < s
                      · have d2b : decide (0 < s) = true := decide_eq_true d2
                        obtain ⟨rfl, rfl, rfl⟩ : 0 = r1 ∧ [] = r2 ∧ 7 = r3 := by simpa [d2] using H
                        clear H d2 d1
                        go_wp2_with (first | (go_at_call 21; with_reducible refine (ledger_amounts.calls k1 _ c2 l2 false 0 t _ (Kd.C_below HR2.out HLED.out.below) HC2.out HT.out).mono ?_; rintro e w1 ⟨v, rfl, ho, hb⟩; obtain ⟨A3, c3, rfl, hcc, hC⟩ := Kd.R_reads ho; have HC3 := Aside0.mk hC; have hl := HLED.out.go hb; clear HLED; have HLED := Aside0.mk hl; clear ho hb hcc hC hl; obtain ⟨q1, q2⟩ := HLED.out.cell) | (go_at_call 22; with_reducible refine (place_world0 _ _ _ _ _).mono ?_; rintro e w2 ⟨rfl, hb⟩; have hl := HLED.out.go hb; have hc := Kd.C_below HC3.out hb; clear HLED HC3 q1 q2; have HLED := Aside0.mk hl; have HC3 := Aside0.mk hc; clear hb hl hc; obtain ⟨q1, q2⟩ := HLED.out.cell) | (go_at_call 24; with_reducible refine (concat_two _ _ _ wd A3 c3 t _ (lit_two _ wd A3 t.length c3).1 (lit_two _ wd A3 t.length c3).2.1 (lit_two _ wd A3 t.length c3).2.2.1 (lit_two _ wd A3 t.length c3).2.2.2 (Kd.C_below HC3.out (below_alloc (below_alloc (Below.refl _ _) _) _)) HTL.out).mono ?_; rintro e w3 ⟨v, rfl, ho, hb⟩; rw [← HX.out] at ho; obtain ⟨A4, c4, rfl, hcc, hC⟩ := Kd.R_reads ho; have HC4 := Aside0.mk hC; have HCC4 := Aside0.mk hcc; have hl := HLED.out.go ((below_alloc (below_alloc (Below.refl _ _) _) _).trans (hb.mono (by simp; omega))); clear HLED q1 q2; have HLED := Aside0.mk hl; clear ho hb hcc hC hl; obtain ⟨q1, q2⟩ := HLED.out.cell) | (go_at_call 23; with_reducible refine (money_Add.calls k1 _ _ xt s er _ HC4.out HCC4.out HS.out).mono ?_; rintro e w4 ⟨rfl, hd⟩; have hl := HLED.out.go hd.below; clear HLED q1 q2; have HLED := Aside0.mk hl; clear hd hl; obtain ⟨q1, q2⟩ := HLED.out.cell))
                        go_ret3
                        exact ⟨_, rfl, Kd.V_nil _ _ _ _ _, HLED.out.below⟩
                      · have d2b : decide (0 < s) = false := decide_eq_false d2
                        have H3 : ledger_Post.l0 k1 l2 s out 1 = some (r1, r2, r3) := by rw [show wrap64 ((0 : Int) + 1) = 1 by unfold wrap64; omega] at H; simpa [d2] using H
                        have H' := Aside0.mk H3
                        clear H H3 d2 d1
                        go_wp2_with (first | (go_at_call 21; with_reducible refine (ledger_amounts.calls k1 _ c2 l2 false 0 t _ (Kd.C_below HR2.out HLED.out.below) HC2.out HT.out).mono ?_; rintro e w1 ⟨v, rfl, ho, hb⟩; obtain ⟨A3, c3, rfl, hcc, hC⟩ := Kd.R_reads ho; have HC3 := Aside0.mk hC; have hl := HLED.out.go hb; clear HLED; have HLED := Aside0.mk hl; clear ho hb hcc hC hl; obtain ⟨q1, q2⟩ := HLED.out.cell) | (go_at_call 22; with_reducible refine (place_world0 _ _ _ _ _).mono ?_; rintro e w2 ⟨rfl, hb⟩; have hl := HLED.out.go hb; have hc := Kd.C_below HC3.out hb; clear HLED HC3 q1 q2; have HLED := Aside0.mk hl; have HC3 := Aside0.mk hc; clear hb hl hc; obtain ⟨q1, q2⟩ := HLED.out.cell) | (go_at_call 24; with_reducible refine (concat_two _ _ _ wd A3 c3 t _ (lit_two _ wd A3 t.length c3).1 (lit_two _ wd A3 t.length c3).2.1 (lit_two _ wd A3 t.length c3).2.2.1 (lit_two _ wd A3 t.length c3).2.2.2 (Kd.C_below HC3.out (below_alloc (below_alloc (Below.refl _ _) _) _)) HTL.out).mono ?_; rintro e w3 ⟨v, rfl, ho, hb⟩; rw [← HX.out] at ho; obtain ⟨A4, c4, rfl, hcc, hC⟩ := Kd.R_reads ho; have HC4 := Aside0.mk hC; have HCC4 := Aside0.mk hcc; have hl := HLED.out.go ((below_alloc (below_alloc (Below.refl _ _) _) _).trans (hb.mono (by simp; omega))); clear HLED q1 q2; have HLED := Aside0.mk hl; clear ho hb hcc hC hl; obtain ⟨q1, q2⟩ := HLED.out.cell) | (go_at_call 23; with_reducible refine (money_Add.calls k1 _ _ xt s er _ HC4.out HCC4.out HS.out).mono ?_; rintro e w4 ⟨rfl, hd⟩; have hl := HLED.out.go hd.below; clear HLED q1 q2; have HLED := Aside0.mk hl; clear hd hl; obtain ⟨q1, q2⟩ := HLED.out.cell))
                        go_roundg k1
                        case measure => omega
                        case rel => exact ⟨1, s, out, (by first | rfl | (simp; done)), H', HO, ⟨_, HLED.out.put s⟩⟩
                    · simp only [d1, if_false] at H
                      have d1b : (er != 0) = true := by simp [d1]
                      obtain ⟨rfl, rfl, rfl⟩ : 0 = r1 ∧ [] = r2 ∧ er = r3 := by simpa using H
                      clear H d1
                      go_wp2_with (first | (go_at_call 21; with_reducible refine (ledger_amounts.calls k1 _ c2 l2 false 0 t _ (Kd.C_below HR2.out HLED.out.below) HC2.out HT.out).mono ?_; rintro e w1 ⟨v, rfl, ho, hb⟩; obtain ⟨A3, c3, rfl, hcc, hC⟩ := Kd.R_reads ho; have HC3 := Aside0.mk hC; have hl := HLED.out.go hb; clear HLED; have HLED := Aside0.mk hl; clear ho hb hcc hC hl; obtain ⟨q1, q2⟩ := HLED.out.cell) | (go_at_call 22; with_reducible refine (place_world0 _ _ _ _ _).mono ?_; rintro e w2 ⟨rfl, hb⟩; have hl := HLED.out.go hb; have hc := Kd.C_below HC3.out hb; clear HLED HC3 q1 q2; have HLED := Aside0.mk hl; have HC3 := Aside0.mk hc; clear hb hl hc; obtain ⟨q1, q2⟩ := HLED.out.cell) | (go_at_call 24; with_reducible refine (concat_two _ _ _ wd A3 c3 t _ (lit_two _ wd A3 t.length c3).1 (lit_two _ wd A3 t.length c3).2.1 (lit_two _ wd A3 t.length c3).2.2.1 (lit_two _ wd A3 t.length c3).2.2.2 (Kd.C_below HC3.out (below_alloc (below_alloc (Below.refl _ _) _) _)) HTL.out).mono ?_; rintro e w3 ⟨v, rfl, ho, hb⟩; rw [← HX.out] at ho; obtain ⟨A4, c4, rfl, hcc, hC⟩ := Kd.R_reads ho; have HC4 := Aside0.mk hC; have HCC4 := Aside0.mk hcc; have hl := HLED.out.go ((below_alloc (below_alloc (Below.refl _ _) _) _).trans (hb.mono (by simp; omega))); clear HLED q1 q2; have HLED := Aside0.mk hl; clear ho hb hcc hC hl; obtain ⟨q1, q2⟩ := HLED.out.cell) | (go_at_call 23; with_reducible refine (money_Add.calls k1 _ _ xt s er _ HC4.out HCC4.out HS.out).mono ?_; rintro e w4 ⟨rfl, hd⟩; have hl := HLED.out.go hd.below; clear HLED q1 q2; have HLED := Aside0.mk hl; clear hd hl; obtain ⟨q1, q2⟩ := HLED.out.cell))
                      go_ret3
                      exact ⟨_, rfl, Kd.V_nil _ _ _ _ _, HLED.out.below⟩
                  · have ZN := Aside0.mk z
                    have HX0 : acctOf wd out x30 = fieldOf (rd_T39 out ((x30 - 1) / 3)) ((x30 - 1) % 3) := by unfold acctOf; rw [if_neg z]
                    rw [HX0] at HS
                    obtain ⟨xt, hx⟩ : ∃ y, y = fieldOf (rd_T39 out ((x30 - 1) / 3)) ((x30 - 1) % 3) :: t := ⟨_, rfl⟩
                    rw [← hx] at HS
                    have HX := Aside0.mk hx
                    have z1 : (x30 == 0) = false := beq_eq_false_iff_ne.mpr z
                    have z2 : decide (0 < x30) = true := decide_eq_true (by have := c4c.out; omega)
                    clear hx HX0 z
                    obtain ⟨g, cap, hv, _, _, _, _⟩ := Kd.R_form HLED.out.row (by have := c3c.out; have := c4c.out; have := ZN.out; rw [HO.out]; omega)
                    have hA : A = some ⟨g, 0, none⟩ := by injection hv
                    clear hv
                    subst hA
                    by_cases d1 : er = 0
                    · simp only [d1, if_true] at H
                      have d1b : (er != 0) = false := by simp [d1]
                      by_cases d2 : s < 0
                      · have d2b : decide (s < 0) = true := decide_eq_true d2
                        obtain ⟨rfl, rfl, rfl⟩ : 0 = r1 ∧ [] = r2 ∧ 7 = r3 := by rw [if_pos (Or.inl ⟨by have := c4c.out; have := ZN.out; omega, d2⟩)] at H; simpa using H
                        clear H d2 d1
                        go_wp2_with (first | (go_at_call 21; with_reducible refine (ledger_amounts.calls k1 _ c2 l2 false x30 t _ (Kd.C_below HR2.out HLED.out.below) HC2.out HT.out).mono ?_; rintro e w1 ⟨v, rfl, ho, hb⟩; obtain ⟨A3, c3, rfl, hcc, hC⟩ := Kd.R_reads ho; have HC3 := Aside0.mk hC; have hl := HLED.out.go hb; clear HLED; have HLED := Aside0.mk hl; clear ho hb hcc hC hl; obtain ⟨q1, q2⟩ := acct_cell HLED.out.row x30 (by have := c4c.out; have := ZN.out; omega) (by have := c3c.out; omega)) | (go_at_call 22; with_reducible refine (place_in _ g l1.length l1.length x30 _ (by have := c4c.out; have := ZN.out; omega) (by have := c3c.out; omega) (by have := HN.out; omega)).mono ?_; rintro e w2 ⟨rfl, hb⟩; have hl := HLED.out.go hb; have hc := Kd.C_below HC3.out hb; clear HLED HC3 q1 q2; have HLED := Aside0.mk hl; have HC3 := Aside0.mk hc; clear hb hl hc; obtain ⟨q1, q2⟩ := acct_cell HLED.out.row x30 (by have := c4c.out; have := ZN.out; omega) (by have := c3c.out; omega)) | (go_at_call 24; with_reducible refine (concat_two _ _ _ (fieldOf (rd_T39 out ((x30 - 1) / 3)) ((x30 - 1) % 3)) A3 c3 t _ (lit_two _ (fieldOf (rd_T39 out ((x30 - 1) / 3)) ((x30 - 1) % 3)) A3 t.length c3).1 (lit_two _ (fieldOf (rd_T39 out ((x30 - 1) / 3)) ((x30 - 1) % 3)) A3 t.length c3).2.1 (lit_two _ (fieldOf (rd_T39 out ((x30 - 1) / 3)) ((x30 - 1) % 3)) A3 t.length c3).2.2.1 (lit_two _ (fieldOf (rd_T39 out ((x30 - 1) / 3)) ((x30 - 1) % 3)) A3 t.length c3).2.2.2 (Kd.C_below HC3.out (below_alloc (below_alloc (Below.refl _ _) _) _)) HTL.out).mono ?_; rintro e w3 ⟨v, rfl, ho, hb⟩; rw [← HX.out] at ho; obtain ⟨A4, c4, rfl, hcc, hC⟩ := Kd.R_reads ho; have HC4 := Aside0.mk hC; have HCC4 := Aside0.mk hcc; have hl := HLED.out.go ((below_alloc (below_alloc (Below.refl _ _) _) _).trans (hb.mono (by simp; omega))); clear HLED q1 q2; have HLED := Aside0.mk hl; clear ho hb hcc hC hl; obtain ⟨q1, q2⟩ := acct_cell HLED.out.row x30 (by have := c4c.out; have := ZN.out; omega) (by have := c3c.out; omega)) | (go_at_call 23; with_reducible refine (money_Add.calls k1 _ _ xt s er _ HC4.out HCC4.out HS.out).mono ?_; rintro e w4 ⟨rfl, hd⟩; have hl := HLED.out.go hd.below; clear HLED q1 q2; have HLED := Aside0.mk hl; clear hd hl; obtain ⟨q1, q2⟩ := acct_cell HLED.out.row x30 (by have := c4c.out; have := ZN.out; omega) (by have := c3c.out; omega)))
                        go_ret3
                        exact ⟨_, rfl, Kd.V_nil _ _ _ _ _, HLED.out.below⟩
                      · have d2b : decide (s < 0) = false := decide_eq_false d2
                        have H3 : ledger_Post.l0 k1 l2 wd (setAcct out x30 s) (wrap64 (x30 + 1)) = some (r1, r2, r3) := by rw [if_neg (by rintro (q | q); exact d2 q.2; exact ZN.out q.1), if_neg ZN.out, if_neg ZN.out] at H; exact H
                        have H' := Aside0.mk H3
                        clear H H3 d2 d1
                        go_wp2_with (first | (go_at_call 21; with_reducible refine (ledger_amounts.calls k1 _ c2 l2 false x30 t _ (Kd.C_below HR2.out HLED.out.below) HC2.out HT.out).mono ?_; rintro e w1 ⟨v, rfl, ho, hb⟩; obtain ⟨A3, c3, rfl, hcc, hC⟩ := Kd.R_reads ho; have HC3 := Aside0.mk hC; have hl := HLED.out.go hb; clear HLED; have HLED := Aside0.mk hl; clear ho hb hcc hC hl; obtain ⟨q1, q2⟩ := acct_cell HLED.out.row x30 (by have := c4c.out; have := ZN.out; omega) (by have := c3c.out; omega)) | (go_at_call 22; with_reducible refine (place_in _ g l1.length l1.length x30 _ (by have := c4c.out; have := ZN.out; omega) (by have := c3c.out; omega) (by have := HN.out; omega)).mono ?_; rintro e w2 ⟨rfl, hb⟩; have hl := HLED.out.go hb; have hc := Kd.C_below HC3.out hb; clear HLED HC3 q1 q2; have HLED := Aside0.mk hl; have HC3 := Aside0.mk hc; clear hb hl hc; obtain ⟨q1, q2⟩ := acct_cell HLED.out.row x30 (by have := c4c.out; have := ZN.out; omega) (by have := c3c.out; omega)) | (go_at_call 24; with_reducible refine (concat_two _ _ _ (fieldOf (rd_T39 out ((x30 - 1) / 3)) ((x30 - 1) % 3)) A3 c3 t _ (lit_two _ (fieldOf (rd_T39 out ((x30 - 1) / 3)) ((x30 - 1) % 3)) A3 t.length c3).1 (lit_two _ (fieldOf (rd_T39 out ((x30 - 1) / 3)) ((x30 - 1) % 3)) A3 t.length c3).2.1 (lit_two _ (fieldOf (rd_T39 out ((x30 - 1) / 3)) ((x30 - 1) % 3)) A3 t.length c3).2.2.1 (lit_two _ (fieldOf (rd_T39 out ((x30 - 1) / 3)) ((x30 - 1) % 3)) A3 t.length c3).2.2.2 (Kd.C_below HC3.out (below_alloc (below_alloc (Below.refl _ _) _) _)) HTL.out).mono ?_; rintro e w3 ⟨v, rfl, ho, hb⟩; rw [← HX.out] at ho; obtain ⟨A4, c4, rfl, hcc, hC⟩ := Kd.R_reads ho; have HC4 := Aside0.mk hC; have HCC4 := Aside0.mk hcc; have hl := HLED.out.go ((below_alloc (below_alloc (Below.refl _ _) _) _).trans (hb.mono (by simp; omega))); clear HLED q1 q2; have HLED := Aside0.mk hl; clear ho hb hcc hC hl; obtain ⟨q1, q2⟩ := acct_cell HLED.out.row x30 (by have := c4c.out; have := ZN.out; omega) (by have := c3c.out; omega)) | (go_at_call 23; with_reducible refine (money_Add.calls k1 _ _ xt s er _ HC4.out HCC4.out HS.out).mono ?_; rintro e w4 ⟨rfl, hd⟩; have hl := HLED.out.go hd.below; clear HLED q1 q2; have HLED := Aside0.mk hl; clear hd hl; obtain ⟨q1, q2⟩ := acct_cell HLED.out.row x30 (by have := c4c.out; have := ZN.out; omega) (by have := c3c.out; omega)))
                        go_roundg k1
                        case measure => omega
                        case rel => exact ⟨wrap64 (x30 + 1), wd, setAcct out x30 s, (by first | rfl | (simp; done)), H', ⟨by unfold setAcct; rw [List.length_set]; exact HO.out⟩, ⟨_, HLED.out.set x30 (by have := c4c.out; have := ZN.out; omega) (by have := c3c.out; omega) s⟩⟩
                    · simp only [d1, if_false] at H
                      have d1b : (er != 0) = true := by simp [d1]
                      obtain ⟨rfl, rfl, rfl⟩ : 0 = r1 ∧ [] = r2 ∧ er = r3 := by simpa using H
                      clear H d1
                      go_wp2_with (first | (go_at_call 21; with_reducible refine (ledger_amounts.calls k1 _ c2 l2 false x30 t _ (Kd.C_below HR2.out HLED.out.below) HC2.out HT.out).mono ?_; rintro e w1 ⟨v, rfl, ho, hb⟩; obtain ⟨A3, c3, rfl, hcc, hC⟩ := Kd.R_reads ho; have HC3 := Aside0.mk hC; have hl := HLED.out.go hb; clear HLED; have HLED := Aside0.mk hl; clear ho hb hcc hC hl; obtain ⟨q1, q2⟩ := acct_cell HLED.out.row x30 (by have := c4c.out; have := ZN.out; omega) (by have := c3c.out; omega)) | (go_at_call 22; with_reducible refine (place_in _ g l1.length l1.length x30 _ (by have := c4c.out; have := ZN.out; omega) (by have := c3c.out; omega) (by have := HN.out; omega)).mono ?_; rintro e w2 ⟨rfl, hb⟩; have hl := HLED.out.go hb; have hc := Kd.C_below HC3.out hb; clear HLED HC3 q1 q2; have HLED := Aside0.mk hl; have HC3 := Aside0.mk hc; clear hb hl hc; obtain ⟨q1, q2⟩ := acct_cell HLED.out.row x30 (by have := c4c.out; have := ZN.out; omega) (by have := c3c.out; omega)) | (go_at_call 24; with_reducible refine (concat_two _ _ _ (fieldOf (rd_T39 out ((x30 - 1) / 3)) ((x30 - 1) % 3)) A3 c3 t _ (lit_two _ (fieldOf (rd_T39 out ((x30 - 1) / 3)) ((x30 - 1) % 3)) A3 t.length c3).1 (lit_two _ (fieldOf (rd_T39 out ((x30 - 1) / 3)) ((x30 - 1) % 3)) A3 t.length c3).2.1 (lit_two _ (fieldOf (rd_T39 out ((x30 - 1) / 3)) ((x30 - 1) % 3)) A3 t.length c3).2.2.1 (lit_two _ (fieldOf (rd_T39 out ((x30 - 1) / 3)) ((x30 - 1) % 3)) A3 t.length c3).2.2.2 (Kd.C_below HC3.out (below_alloc (below_alloc (Below.refl _ _) _) _)) HTL.out).mono ?_; rintro e w3 ⟨v, rfl, ho, hb⟩; rw [← HX.out] at ho; obtain ⟨A4, c4, rfl, hcc, hC⟩ := Kd.R_reads ho; have HC4 := Aside0.mk hC; have HCC4 := Aside0.mk hcc; have hl := HLED.out.go ((below_alloc (below_alloc (Below.refl _ _) _) _).trans (hb.mono (by simp; omega))); clear HLED q1 q2; have HLED := Aside0.mk hl; clear ho hb hcc hC hl; obtain ⟨q1, q2⟩ := acct_cell HLED.out.row x30 (by have := c4c.out; have := ZN.out; omega) (by have := c3c.out; omega)) | (go_at_call 23; with_reducible refine (money_Add.calls k1 _ _ xt s er _ HC4.out HCC4.out HS.out).mono ?_; rintro e w4 ⟨rfl, hd⟩; have hl := HLED.out.go hd.below; clear HLED q1 q2; have HLED := Aside0.mk hl; clear hd hl; obtain ⟨q1, q2⟩ := acct_cell HLED.out.row x30 (by have := c4c.out; have := ZN.out; omega) (by have := c3c.out; omega)))
                      go_ret3
                      exact ⟨_, rfl, Kd.V_nil _ _ _ _ _, HLED.out.below⟩
                · rw [if_neg c6] at H; simp at H
            · rw [if_neg c4] at H; simp at H
          · rw [if_neg c3] at H
            obtain ⟨rfl, rfl, rfl⟩ : wd = r1 ∧ out = r2 ∧ 0 = r3 := by simpa using H
            have c3b : decide (x30 < wrap64 (1 + wrap64 (3 * (l1.length : Int)))) = false := by rw [E.out]; exact decide_eq_false c3
            obtain ⟨q1, q2⟩ := HLED.out.cell
            have HV := Aside0.mk (show Kd.V k39 39 wr w.heap.size (fun k_ => (w.heap.size ≤ k_)) (.slice A l1.length l1.length) out from by
              have h1 := Kd.R_F (Kd.R_mono (Kd.R_bound HLED.out.row) (fun k hk => hk.2.1))
              rw [← HO.out] at h1 ⊢
              exact Kd.V_mk (Nat.le_refl _) h1)
            clear c3 H
            go_wp2
            go_ret3
            exact ⟨_, rfl, HV.out, HLED.out.below⟩
    · rw [if_neg c1e] at h
      obtain ⟨rfl, rfl, rfl⟩ : 0 = r1 ∧ [] = r2 ∧ er = r3 := by simpa using h
      have c1b : (er != 0) = true := by simp [c1e]
      clear h c1e
      go_enter Try.func8, Try.ntmps8
      go_wp2_with (go_at_call 18; with_reducible refine (ledger_may.calls k a0 A1 c1 l1 A2 c2 l2 er _ (Kd.C_below HR1.out (below_alloc (Below.refl _ _) _)) HC1.out (Kd.C_below HR2.out (below_alloc (Below.refl _ _) _)) HC2.out HE.out).mono ?_; rintro e w1 ⟨rfl, hb⟩; have HB := Aside0.mk ((below_alloc (Below.refl w.heap.size w) _).trans (hb.mono (by simp))); clear hb)
      go_ret3
      exact ⟨_, rfl, Kd.V_nil _ _ _ _ _, HB.out⟩
  · rw [if_neg c0] at h; simp at h
end Go.Proofs.Ytkjkonkgcepanaa.PAll
