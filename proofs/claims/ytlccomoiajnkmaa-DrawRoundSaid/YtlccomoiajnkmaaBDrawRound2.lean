/- Words, plain functions and contracts of the functions that the law of this claim reaches; no conditions. -/
import Derived.Test.YtlccomoiajnkmaaBDrawRound1
section
namespace Go.Proofs.Ytlccomoiajnkmaa.PAll
open Go.RowKit Go.Proofs.YtlccomoiajnkmaaW.PrintWords Go.Proofs.YtlccomoiajnkmaaW.PrintLast Go.Proofs.YtlccomoiajnkmaaW.PrintMore
attribute [local go_sem] max2_int min2_int max_two min_two max_three min_three max_four min_four   -- for this text's walks alone
set_option linter.unusedVariables false
set_option linter.unusedSimpArgs false

def Keep37 (W W' : World) : Prop := ∀ (b : Nat) (cs : Array Value), W.heap[b]? = some (.cells cs 37 (0, 0)) → W'.heap[b]? = some (.cells cs 37 (0, 0))
theorem Keep37.at_ {W W' : World} (h : Keep37 W W') {b : Nat} {cs : Array Value} (hb : W.heap[b]? = some (.cells cs 37 (0, 0))) : W'.heap[b]? = some (.cells cs 37 (0, 0)) := h b cs hb
theorem Keep37.refl (W : World) : Keep37 W W := fun _ _ h => h
theorem Keep37.trans {W W1 W2 : World} (h : Keep37 W W1) (k : Keep37 W1 W2) : Keep37 W W2 := fun b cs hb => k b cs (h b cs hb)
theorem Keep37.below {W W1 : World} (h : Below W.heap.size W W1) : Keep37 W W1 := fun _ _ hb => blk_below hb h
theorem Keep37.drewN (W : World) (n : Nat) : Keep37 W (W.drewN n) := fun _ _ hb => blk_drewN hb n
theorem Keep37.grown {W W1 : World} {row : Option Nat} (hg : W.grownBy W1 row) (hr : ∀ (b : Nat) (cs : Array Value), W.heap[b]? = some (.cells cs 37 (0, 0)) → some b ≠ row) : Keep37 W W1 := fun b cs hb => blk_grown hb hg (hr b cs hb)
theorem Keep37.put {W : World} {g : Nat} {cs0 : Array Value} (hb0 : W.heap[g]? = some (.cells cs0 39 (0, 0))) (i : Nat) (u : Value) : Keep37 W (W.setCell ⟨g, i, none⟩ u) := fun b cs hb => blk_far hb (blk_ne hb hb0 (by decide)) u
structure Spd (w : World) (g : Nat) (out : List S64) (W : World) : Prop where
  ex : ∃ v, W.heap[g]? = some (.cells #[v] 39 (0, 0)) ∧ Kd.R k64 64 W w.heap.size (fun k => k ≠ g) v out
  below : Below w.heap.size w W
  lo : w.heap.size ≤ g
theorem Spd.go {w : World} {g : Nat} {out : List S64} {W W1 : World} (h : Spd w g out W) (hb : Below W.heap.size W W1) : Spd w g out W1 := by
  obtain ⟨v, h1, h2⟩ := h.ex
  exact ⟨⟨v, blk_below h1 hb, Kd.R_below h2 hb⟩, h.below.trans (hb.mono h.below.size), h.lo⟩
def draw_Spend_1.f (a kd n : Int) (out : List S64) : Option (List S64) := if n = 0 then some out else ((draw_acct.f a kd).bind fun t => if out.length < 1000000 then some (out ++ [(⟨t, n⟩ : S64)]) else none)
def draw_Spend_1.T1 : Bool × List (List Nat × List Nat) := (true, [([], []), ([], []), ([], []), ([1, 2], [1, 2]), ([], []), ([3, 4], [3, 4]), ([5], [5]), ([0, 6, 3], [0, 6]), ([7, 7, 0, 1, 2, 3, 4, 5, 6, 7], [7])])
def draw_Spend_1.B1 : List Nat := [0, 0, 0, 6, 0, 30, 62, 127, 255]
theorem draw_Spend_1.tab1 : rtab .any (opsOf Try.f32 1) = draw_Spend_1.T1 := by kernel_rfl
theorem draw_Spend_1.bits1 : waitsOk draw_Spend_1.T1.2 draw_Spend_1.B1 = true := by kernel_rfl
set_option maxHeartbeats 8000000 in
set_option maxRecDepth 100000 in
theorem draw_Spend_1.calls (w : World) (g : Nat) (a kd n : Int) (out r : List S64) (W : World) (h : Spd w g out W) (hf : draw_Spend_1.f a kd n out = some r) :
    Calls Try.prog 32 #[.int .i64 a, .int .i64 kd, .int .i64 n, .pointer (some ⟨g, 0, none⟩)] W fun e W' => e = .returned (.tuple #[]) ∧ Spd w g r W' ∧ Keep37 W W' := by
  unfold draw_Spend_1.f at hf
  have HS := Aside0.mk h
  clear h
  by_cases c1 : n = 0
  · rw [if_pos c1] at hf
    obtain rfl := Option.some.inj hf
    clear hf
    subst c1
    go_enter Try.func32, Try.ntmps32
    go_wp2
    go_end0
    exact ⟨rfl, HS.out, Keep37.refl _⟩
  · rw [if_neg c1] at hf
    have d1 : (n != 0) = true := bne_iff_ne.mpr c1
    obtain ⟨t, ht, hf⟩ := Option.bind_eq_some_iff.1 hf
    have HT := Aside0.mk ht
    clear ht c1
    have c2 : out.length < 1000000 := Decidable.byContradiction fun c => by rw [if_neg c] at hf; simp at hf
    rw [if_pos c2] at hf
    obtain rfl := Option.some.inj hf
    clear hf
    have HL := Aside0.mk c2
    clear c2
    obtain ⟨v, hbk, hO⟩ := HS.out.ex
    have HB := Aside0.mk (below_drew HS.out.below)
    have HLO := Aside0.mk HS.out.lo
    have BK := Aside0.mk (blk_drew hbk)
    have HO := Aside0.mk (Kd.R_drew hO)
    have HW : Aside0 (Keep37 W W.drew) := ⟨Keep37.below (below_drew (Below.refl _ _))⟩
    clear HS hbk hO
    go_enter Try.func32, Try.ntmps32
    go_wp2
    refine start_ (n := 9) (S := fun w' => w'.cell? ⟨g, 0, none⟩ = some v) (ds := [8]) #[false, false, false, false, false, false, false, false, false] (by kernel_rfl) rfl rfl ((blk_cell BK.out 0).trans rfl) (fun hHeld => ?_); refine with_tabW draw_Spend_1.tab1 draw_Spend_1.bits1 (fun HT_ HW_ => ?_)
    generalize W.drew = w1 at HO BK HB HW hHeld ⊢
    refine pure_ (i := 1) (N := some 10) (v := ?_) (a' := ?_) #[false, true, false, false, false, false, false, false, false] rfl rfl (any_of HT_.out (by kernel_rfl)) (fun _ _ _ h => h) (Or.inl ⟨by rfl, ?_⟩) ?_ ?_
    rotate_left
    · intro w'
      go_simp
      with_reducible rfl
    rotate_left
    · simp only [Act.put, List.setIfInBounds_toArray, List.set_cons_zero, List.set_cons_succ, i64_w, i32_w]
      rfl
    refine pure_ (i := 2) (N := some 11) (v := ?_) (a' := ?_) #[false, true, true, false, false, false, false, false, false] rfl rfl (any_of HT_.out (by kernel_rfl)) (fun _ _ _ h => h) (Or.inl ⟨by rfl, ?_⟩) ?_ ?_
    rotate_left
    · intro w'
      go_simp
      with_reducible rfl
    rotate_left
    · simp only [Act.put, List.setIfInBounds_toArray, List.set_cons_zero, List.set_cons_succ, i64_w, i32_w]
      rfl
    refine pure_ (i := 4) (N := some 13) (v := ?_) (a' := ?_) #[false, true, true, false, true, false, false, false, false] rfl rfl (any_of HT_.out (by kernel_rfl)) (fun _ _ _ h => h) (Or.inl ⟨by rfl, ?_⟩) ?_ ?_
    rotate_left
    · intro w'
      go_simp
      with_reducible rfl
    rotate_left
    · simp only [Act.put, List.setIfInBounds_toArray, List.set_cons_zero, List.set_cons_succ, i64_w, i32_w]
      rfl
    refine take_ (i := 0) (N := some 9) (v := ?_) (a' := ?_) #[true, true, true, false, true, false, false, false, false] rfl rfl (take_ofW HT_.out HW_.out (by kernel_rfl)) (fun _ _ _ h => h) (Or.inl ⟨by rfl, ?_⟩) hHeld ?_ ?_
    rotate_left
    · rintro w' hs_
      go_simp
      with_reducible rfl
    rotate_left
    · simp only [Act.put, List.setIfInBounds_toArray, List.set_cons_zero, List.set_cons_succ, i64_w, i32_w]
      rfl
    refine one_ (i := 3) (N := some 12) #[true, true, true, true, true, false, false, false, false] rfl rfl (one_of HT_.out (by kernel_rfl)) (by decide) (fun K hK => ?_)
    refine goes_ Try.func33 (by kernel_rfl) rfl #[.int .i64 a, .int .i64 kd] (by rfl) rfl rfl (by (try simp only [List.map_toArray, List.map_cons, List.map_nil]); first | done | rfl | (simp only [List.length_drop, List.length_take]; rfl)) ?_
    with_reducible refine (draw_acct.calls a kd t _ HT.out).mono ?_
    rintro e w' ⟨rfl, ⟨nd, rfl⟩⟩
    refine ⟨_, rfl, ?_⟩
    refine hK.out _ _ ((blk_cell (blk_drewN BK.out nd) 0).trans rfl) (fun hHeld => ?_)
    clear hK K
    refine norm_ (a' := ?_) ?_ ?_
    rotate_left
    · show Act.put _ (some 12) _ = _
      simp only [Act.put, List.setIfInBounds_toArray, List.set_cons_zero, List.set_cons_succ, i64_w, i32_w]
      rfl
    refine pure_ (i := 5) (N := some 14) (v := ?_) (a' := ?_) #[true, true, true, true, true, true, false, false, false] rfl rfl (any_of HT_.out (by kernel_rfl)) (fun _ _ _ h => h) (Or.inl ⟨by rfl, ?_⟩) ?_ ?_
    rotate_left
    · intro w'
      go_simp
      with_reducible rfl
    rotate_left
    · simp only [Act.put, List.setIfInBounds_toArray, List.set_cons_zero, List.set_cons_succ, i64_w, i32_w]
      rfl
    refine one_ (i := 6) (N := some 15) #[true, true, true, true, true, true, true, false, false] rfl rfl (one_of HT_.out (by kernel_rfl)) (by decide) (fun K hK => ?_)
    refine Kd.R_lit_step k64 _ 64 ?hg (N := 15) ?hd (xs := ([(⟨t, n⟩ : S64)] : List (S64))) (inner := [.int .i64 t, .int .i64 n]) (ok := fun _ => True) (okp := fun _ => True) ?hr ?hp (fun _ hk => hk) trivial (Below.refl _ _) (Nat.le_refl _) (by simp) ?_; (case hd => rfl); (case hg => rfl); (case hr => first | (go_simp; done) | (go_simp; rfl)); (case hp => exact (Reps.c2 (show Kd.M k64 _ _ _ (⟨t, n⟩ : S64) [.int .i64 t, .int .i64 n] from (k64_mkM _ _ _ (⟨t, n⟩ : S64) )) (Reps.none _ _)))
    intro v2 w2 ho2 hb2 hg_ hnew_
    clear hg_ hnew_
    have n0_ := Aside0.mk (Kd.R_below (Kd.R_drewN HO.out nd) hb2)
    have n1_ := Aside0.mk (blk_below (blk_drewN BK.out nd) hb2)
    have n2_ := Aside0.mk (below_step (pw_below_drewN HB.out nd) hb2)
    have n3_ := Aside0.mk (Keep37.trans HW.out (Keep37.trans (Keep37.drewN _ nd) (Keep37.below hb2)))
    clear HO BK HB HW
    have HO := n0_
    have BK := n1_
    have HB := n2_
    have HW := n3_
    clear n0_ n1_ n2_ n3_
    obtain ⟨A2, c2, e2, hc2, hC2⟩ := Kd.R_reads ho2
    subst e2
    have HC2 := Aside0.mk hC2
    clear hb2 ho2 hC2 hc2
    refine hK.out _ _ ((blk_cell BK.out 0).trans rfl) (fun hHeld => ?_)
    clear hK K
    refine norm_ (a' := ?_) ?_ ?_
    rotate_left
    · show Act.put _ (some 15) _ = _
      simp only [Act.put, List.setIfInBounds_toArray, List.set_cons_zero, List.set_cons_succ, i64_w, i32_w]
      rfl
    refine one_ (i := 7) (N := some 16) #[true, true, true, true, true, true, true, true, false] rfl rfl (one_of HT_.out (by kernel_rfl)) (by decide) (fun K hK => ?_)
    refine Kd.R_append_rows_step k64 (w0 := w) w.heap.size (by rfl) (.tmp 9) (.tmp 15) 39 64 (.agg #[(.int .i64 0), (.int .i64 0)]) 16 rfl Try.underlying39 info64 rfl (by decide) (by omega) v out ([(⟨t, n⟩ : S64)] : List (S64)) _ _ _ (fun k => k ≠ g) (fun _ => False) rfl rfl ?aO ?aR (fun _ _ h => h) (fun _ h => h.elim) ?aF ?aB ?aS ?aL ?_
    (case aR => exact HC2.out)
    (case aB => exact HB.out)
    (case aF => exact (fun k_ hk => by have := blk_lt BK.out; omega))
    (case aO => exact HO.out)
    (case aS => exact below_size HB.out)
    (case aL => have := HL.out; simp; omega)
    intro v3 w3 ho hb hg hat
    have n1_ := Aside0.mk (blk_grown BK.out hg (fun e => HO.out.1 g e.symm rfl))
    have n3_ := Aside0.mk (Keep37.trans HW.out (Keep37.grown hg (fun b cs hb37 => Kd.R_ne HO.out hb37 (by decide))))
    clear HO BK HB HW HC2
    have HO := Aside0.mk ho
    have BK := n1_
    have HB := Aside0.mk hb
    have HW := n3_
    clear n1_ n3_ ho hb hg hat
    obtain ⟨A3, cc3, e3⟩ := Kd.R_slice HO.out
    subst e3
    refine hK.out _ _ ((blk_cell BK.out 0).trans rfl) (fun hHeld => ?_)
    clear hK K
    refine norm_ (a' := ?_) ?_ ?_
    rotate_left
    · show Act.put _ (some 16) _ = _
      simp only [Act.put, List.setIfInBounds_toArray, List.set_cons_zero, List.set_cons_succ, i64_w, i32_w]
      rfl
    refine last_ (i := 8) (N := none) #[true, true, true, true, true, true, true, true, true] rfl rfl (one_of HT_.out (by kernel_rfl)) (by decide) (fun K hK => ?_)
    have hcl : w3.cell? ⟨g, 0, none⟩ = some v := (blk_cell BK.out 0).trans rfl
    have hfr := blk_frozen BK.out 0
    refine skip_ (w1 := ?_) (by rfl) rfl ?_ ?_
    rotate_left
    · go_simp
      rfl
    refine hK.out _ _ ?_
    clear hK K
    refine done_ (done_of HT_.out (by kernel_rfl)) ?_
    try go_wp2
    go_end0
    have HO2 := HO.out
    rw [show (out ++ [(⟨t, n⟩ : S64)]).length = out.length + 1 by simp] at HO2
    exact ⟨rfl, ⟨⟨_, blk_put BK.out 0 _ rfl, Kd.R_far HO2 (fun k hk => hk) _⟩, below_set HB.out HLO.out, HLO.out⟩, Keep37.trans HW.out (Keep37.put BK.out 0 _)⟩
theorem clipL_at (A : Option Addr) (n c : Nat) (w : World) (hc : n ≤ c) :
    Calls Try.prog 34 #[.slice A n c] w fun e w' => e = .returned (.slice A n n) ∧ w' = w := by
  have hcut := slices_Clip_Leg.cut A n c hc
  go_enter Try.func34, Try.ntmps34
  go_wp2
  go_ret
  exact ⟨rfl, rfl⟩
def draw_Spend.l0 : Nat → List S37 → List S37 → List S64 → Int → Option (List S64)
  | 0, _, _, _, _ => none
  | k + 1, ds, cs, out, i => if i < (ds.length : Int) then (if (rd_T37 ds i).f1 = 0 then draw_Spend.l0 k ds cs out (wrap64 (i + 1)) else ((draw_Spend_1.f (rd_T37 ds i).f0 2 (wrap64 (-(rd_T37 ds i).f1)) out).bind fun o1 => (draw_Spend_1.f (rd_T37 ds i).f0 3 (rd_T37 cs i).f1 o1).bind fun o2 => (draw_Spend_1.f (rd_T37 ds i).f0 1 (wrap64 ((rd_T37 ds i).f1 - (rd_T37 cs i).f1)) o2).bind fun o3 => draw_Spend.l0 k ds cs o3 (wrap64 (i + 1)))) else some out
def draw_Spend.f (k : Nat) (l0 l1 : List S37) : Option (List S64) := if (l0.length : Int) = (l1.length : Int) then (if (l0.length : Int) < 1000000 then draw_Spend.l0 k l0 l1 [] 0 else none) else some []
theorem draw_Spend.mono_l : ∀ k y0 y1 y2 y3, LeO (draw_Spend.l0 k y0 y1 y2 y3) (draw_Spend.l0 (k + 1) y0 y1 y2 y3)
  | 0 => fun _ _ _ _ r h => by simp [draw_Spend.l0] at h
  | k + 1 => by
    have ih := draw_Spend.mono_l k
    · intro y0 y1 y2 y3
      unfold draw_Spend.l0
      repeat' first
      | (with_reducible exact ih _ _ _ _)
      | (with_reducible exact LeO.refl _)
      | (with_reducible exact LeO.none _)
      | (with_reducible refine LeO.ite ?_ ?_)
      | (with_reducible refine LeO.bind ?_ (fun _ => ?_))
      | exact LeO.none _
      | refine LeO.ite ?_ ?_
      | exact LeO.refl _
theorem draw_Spend.mono : ∀ a0 a1 k, LeO (draw_Spend.f k a0 a1) (draw_Spend.f (k + 1) a0 a1) := by
  intro a0 a1 k
  unfold draw_Spend.f
  repeat' first
      | (with_reducible exact draw_Spend.mono_l _ _ _ _ _)
      | (with_reducible exact LeO.refl _)
      | (with_reducible exact LeO.none _)
      | (with_reducible refine LeO.ite ?_ ?_)
      | exact LeO.none _
      | refine LeO.ite ?_ ?_
      | exact LeO.refl _
def draw_Spend.T10 : Bool × List (List Nat × List Nat) := (true, [([], []), ([], []), ([1], [1]), ([], []), ([], []), ([3, 4], [3, 4]), ([5], [5]), ([6], [6]), ([0, 2, 7], [0, 2, 7])])
def draw_Spend.B10 : List Nat := [0, 0, 2, 0, 0, 24, 56, 120, 255]
theorem draw_Spend.tab10 : rtab .any (opsOf Try.f19 10) = draw_Spend.T10 := by kernel_rfl
theorem draw_Spend.bits10 : waitsOk draw_Spend.T10.2 draw_Spend.B10 = true := by kernel_rfl
def draw_Spend.T11 : Bool × List (List Nat × List Nat) := (true, [([], []), ([], []), ([1], [1]), ([], []), ([3], [3]), ([], []), ([], []), ([5, 6], [5, 6]), ([7], [7]), ([8], [8]), ([4, 9], [4, 9]), ([0, 2, 10], [0, 2, 10])])
def draw_Spend.B11 : List Nat := [0, 0, 2, 0, 8, 0, 0, 96, 224, 480, 1016, 2047]
theorem draw_Spend.tab11 : rtab .any (opsOf Try.f19 11) = draw_Spend.T11 := by kernel_rfl
theorem draw_Spend.bits11 : waitsOk draw_Spend.T11.2 draw_Spend.B11 = true := by kernel_rfl
set_option maxHeartbeats 8000000 in
set_option maxRecDepth 100000 in
theorem draw_Spend.calls (k : Nat) (A0 : Option Addr) (c0 : Nat) (l0 : List (S37)) (A1 : Option Addr) (c1 : Nat) (l1 : List (S37)) (r : List S64) (w : World) (hr0 : Kd.C k37 w A0 l0.length l0) (hc0 : l0.length ≤ c0) (hr1 : Kd.C k37 w A1 l1.length l1) (hc1 : l1.length ≤ c1) (h : draw_Spend.f k l0 l1 = some r) :
    Calls Try.prog 19 #[.slice A0 l0.length c0, .slice A1 l1.length c1] w fun e w' => ∃ v0_ : Value, e = .returned (v0_) ∧ Kd.V k64 64 w' w.heap.size (fun k_ => (w.heap.size ≤ k_)) v0_ r ∧ Below w.heap.size w w' := by
  have HR0 := Aside0.mk hr0
  have HR1 := Aside0.mk hr1
  unfold draw_Spend.f at h
  clear hr0 hc0 hr1 hc1
  rcases Decidable.em (¬ (l0.length : Int) = (l1.length : Int)) with c1e | c1e'
  · rw [if_neg c1e] at h
    obtain rfl := Option.some.inj h
    have d1 : ((l0.length : Int) != (l1.length : Int)) = true := bne_iff_ne.mpr c1e
    have d2 : (l0.length != l1.length) = true := bne_iff_ne.mpr (by omega)
    clear h c1e
    go_enter Try.func19, Try.ntmps19
    go_wp2
    go_ret
    exact ⟨_, rfl, Kd.V_nil _ _ _ _ _, below_alloc (Below.refl _ _) _⟩
  · have c1e : (l0.length : Int) = (l1.length : Int) := by omega
    clear c1e'
    rw [if_pos c1e] at h
    have d1 : ((l0.length : Int) != (l1.length : Int)) = false := bne_eq_false_iff_eq.mpr c1e
    have d2 : (l0.length != l1.length) = false := bne_eq_false_iff_eq.mpr (by omega)
    have HE := Aside0.mk c1e
    have hn : (l0.length : Int) < 1000000 := Decidable.byContradiction fun c => by rw [if_neg c] at h; simp at h
    rw [if_pos hn] at h
    have HN := Aside0.mk hn
    have H' := Aside0.mk h
    clear h hn c1e
    go_enter Try.func19, Try.ntmps19
    go_wp2
    go_loopg [17] k (fun kq v17 wc => ∃ (i : Nat) (out : List S64), v17 = .int .i64 (i : Int) ∧ Aside0 (draw_Spend.l0 kq l0 l1 out (i : Int) = some r) ∧ Aside0 (i ≤ l0.length) ∧ Aside0 (Spd w w.heap.size out wc))
    case atStart => exact ⟨0, [], rfl, H', ⟨by omega⟩, ⟨⟨⟨_, heap_alloc_new w _, Kd.R_nil _ _ _ _ _⟩, below_alloc (Below.refl _ _) _, Nat.le_refl _⟩⟩⟩
    case round =>
      clear H'
      obtain ⟨i, out, rfl, HH, HL, HS⟩ := hrel
      cases gk with
      | zero => exact absurd HH.out (by simp [draw_Spend.l0])
      | succ k1 =>
        have H := HH.out
        clear HH
        simp only [draw_Spend.l0] at H
        have HW : Aside0 (wrap64 ((i : Int) + 1) = ((i + 1 : Nat) : Int)) := ⟨by have := HN.out; have := HL.out; unfold wrap64; omega⟩
        rw [HW.out] at H
        by_cases c3 : i < l0.length
        · rw [if_pos (by omega)] at H
          have HLT := Aside0.mk c3
          obtain ⟨ad, ead, hx0, hx1⟩ := at_T37 HR0.out (i : Int) (by omega) (by omega)
          cases ead
          rw [show ((i : Int)).toNat = i by omega] at hx0 hx1
          replace hx0 := (HS.out.below.cell (World.block_lt_of_cell? w _ hx0)).trans hx0
          replace hx1 := (HS.out.below.cell (World.block_lt_of_cell? w _ hx1)).trans hx1
          obtain ⟨ad2, ead2, hy0, hy1⟩ := at_T37 HR1.out (i : Int) (by omega) (by have := HE.out; omega)
          cases ead2
          rw [show ((i : Int)).toNat = i by omega] at hy0 hy1
          clear hy0
          have hi1 : decide ((i : Int) < (l0.length : Int)) = true := decide_eq_true (by omega)
          have hi2 : decide (i < l0.length) = true := decide_eq_true c3
          have hi3 : (i < l0.length) = True := eq_true c3
          have hj1 : decide ((i : Int) < (l1.length : Int)) = true := decide_eq_true (by have := HE.out; omega)
          have hj2 : decide (i < l1.length) = true := decide_eq_true (by have := HE.out; omega)
          have hj3 : (i < l1.length) = True := eq_true (by have := HE.out; omega)
          by_cases c4 : (rd_T37 l0 (i : Int)).f1 = 0
          · rw [if_pos c4] at H
            have H' := Aside0.mk H
            have f3 : ((rd_T37 l0 (i : Int)).f1 == 0) = true := beq_iff_eq.mpr c4
            clear H c4 c3 hy1
            go_wp2
            go_roundg k1
            case measure => omega
            case rel => exact ⟨i + 1, out, by rw [HW.out], H', ⟨by have := HLT.out; omega⟩, ⟨HS.out.go (below_alloc (Below.refl _ _) _)⟩⟩
          · rw [if_neg c4] at H
            have f3 : ((rd_T37 l0 (i : Int)).f1 == 0) = false := beq_eq_false_iff_ne.mpr c4
            obtain ⟨o1, h1, H⟩ := Option.bind_eq_some_iff.1 H
            obtain ⟨o2, h2, H⟩ := Option.bind_eq_some_iff.1 H
            obtain ⟨o3, h3, H⟩ := Option.bind_eq_some_iff.1 H
            have H1 := Aside0.mk h1
            have H2 := Aside0.mk h2
            have H3 := Aside0.mk h3
            have H' := Aside0.mk H
            clear H c4 c3 h1 h2 h3
            go_wp2_with (go_at_call 32; with_reducible refine (draw_Spend_1.calls w w.heap.size (rd_T37 l0 (i : Int)).f0 2 (wrap64 (-(rd_T37 l0 (i : Int)).f1)) out o1 _ (HS.out.go (below_alloc (Below.refl _ _) _)) H1.out).mono ?_; rintro e w1 ⟨rfl, hs, hk⟩; have n0_ := Aside0.mk (hs.go (below_drew (Below.refl _ _))); have n1_ := Aside0.mk (blk_drew (hk.at_ (heap_alloc_new wr (.cells #[.int .i64 (rd_T37 l0 (i : Int)).f0, .int .i64 (rd_T37 l0 (i : Int)).f1] 37 (0, 0))))); clear HS hs hk hx0 hx1; have HS := n0_; have BK := n1_; clear n0_ n1_)
            refine start_ (n := 9) (S := fun w' => w'.cell? ⟨wr.heap.size, 0, none⟩ = some (.int .i64 (rd_T37 l0 (i : Int)).f0) ∧ w'.cell? ⟨(ad2.add (i * 2)).block, (ad2.add (i * 2)).off + 1, none⟩ = some (.int .i64 (rd_T37 l1 (i : Int)).f1)) (ds := [8]) #[false, false, false, false, false, false, false, false, false] (by kernel_rfl) rfl rfl ⟨(blk_cell BK.out 0).trans rfl, (HS.out.below.cell (World.block_lt_of_cell? w _ hy1)).trans hy1⟩ (fun hHeld => ?_); refine with_tabW draw_Spend.tab10 draw_Spend.bits10 (fun HT_ HW_ => ?_)
            generalize w1.drew = w1d at HS BK hHeld ⊢
            refine pure_ (i := 0) (N := some 32) (v := ?_) (a' := ?_) #[true, false, false, false, false, false, false, false, false] rfl rfl (any_of HT_.out (by kernel_rfl)) (fun _ _ _ h => h) (Or.inl ⟨by rfl, ?_⟩) ?_ ?_
            rotate_left
            · intro w'
              go_simp
              with_reducible rfl
            rotate_left
            · simp only [Act.put, List.setIfInBounds_toArray, List.set_cons_zero, List.set_cons_succ, i64_w, i32_w]
              rfl
            refine pure_ (i := 1) (N := some 33) (v := ?_) (a' := ?_) #[true, true, false, false, false, false, false, false, false] rfl rfl (any_of HT_.out (by kernel_rfl)) (fun _ _ _ h => h) (Or.inl ⟨by rfl, ?_⟩) ?_ ?_
            rotate_left
            · intro w'
              go_simp
              with_reducible rfl
            rotate_left
            · simp only [Act.put, List.setIfInBounds_toArray, List.set_cons_zero, List.set_cons_succ, i64_w, i32_w]
              rfl
            refine pure_ (i := 3) (N := some 35) (v := ?_) (a' := ?_) #[true, true, false, true, false, false, false, false, false] rfl rfl (any_of HT_.out (by kernel_rfl)) (fun _ _ _ h => h) (Or.inl ⟨by rfl, ?_⟩) ?_ ?_
            rotate_left
            · intro w'
              go_simp
              with_reducible rfl
            rotate_left
            · simp only [Act.put, List.setIfInBounds_toArray, List.set_cons_zero, List.set_cons_succ, i64_w, i32_w]
              rfl
            refine pure_ (i := 4) (N := some 36) (v := ?_) (a' := ?_) #[true, true, false, true, true, false, false, false, false] rfl rfl (any_of HT_.out (by kernel_rfl)) (fun _ _ _ h => h) (Or.inl ⟨by rfl, ?_⟩) ?_ ?_
            rotate_left
            · intro w'
              go_simp
              with_reducible rfl
            rotate_left
            · simp only [Act.put, List.setIfInBounds_toArray, List.set_cons_zero, List.set_cons_succ, i64_w, i32_w]
              rfl
            refine pure_ (i := 5) (N := some 37) (v := ?_) (a' := ?_) #[true, true, false, true, true, true, false, false, false] rfl rfl (any_of HT_.out (by kernel_rfl)) (fun _ _ _ h => h) (Or.inl ⟨by rfl, ?_⟩) ?_ ?_
            rotate_left
            · intro w'
              go_simp
              with_reducible rfl
            rotate_left
            · simp only [Act.put, List.setIfInBounds_toArray, List.set_cons_zero, List.set_cons_succ, i64_w, i32_w]
              rfl
            refine pure_ (i := 6) (N := some 38) (v := ?_) (a' := ?_) #[true, true, false, true, true, true, true, false, false] rfl rfl (any_of HT_.out (by kernel_rfl)) (fun _ _ _ h => h) (Or.inl ⟨by rfl, ?_⟩) ?_ ?_
            rotate_left
            · intro w'
              go_simp
              with_reducible rfl
            rotate_left
            · simp only [Act.put, List.setIfInBounds_toArray, List.set_cons_zero, List.set_cons_succ, i64_w, i32_w]
              rfl
            refine take_ (i := 2) (N := some 34) (v := ?_) (a' := ?_) #[true, true, true, true, true, true, true, false, false] rfl rfl (take_ofW HT_.out HW_.out (by kernel_rfl)) (fun _ _ _ h => h) (Or.inl ⟨by rfl, ?_⟩) hHeld ?_ ?_
            rotate_left
            · rintro w' hs_
              obtain ⟨s0, s1⟩ := hs_
              go_simp
              with_reducible rfl
            rotate_left
            · simp only [Act.put, List.setIfInBounds_toArray, List.set_cons_zero, List.set_cons_succ, i64_w, i32_w]
              rfl
            refine take_ (i := 7) (N := some 39) (v := ?_) (a' := ?_) #[true, true, true, true, true, true, true, true, false] rfl rfl (take_ofW HT_.out HW_.out (by kernel_rfl)) (fun _ _ _ h => h) (Or.inl ⟨by rfl, ?_⟩) hHeld ?_ ?_
            rotate_left
            · rintro w' hs_
              obtain ⟨s0, s1⟩ := hs_
              go_simp
              with_reducible rfl
            rotate_left
            · simp only [Act.put, List.setIfInBounds_toArray, List.set_cons_zero, List.set_cons_succ, i64_w, i32_w]
              rfl
            refine last_ (i := 8) (N := some 40) #[true, true, true, true, true, true, true, true, true] rfl rfl (one_of HT_.out (by kernel_rfl)) (by decide) (fun K hK => ?_)
            refine goesVC_ Try.func32 (by kernel_rfl) rfl #[.int .i64 (rd_T37 l0 (i : Int)).f0, .int .i64 3, .int .i64 (rd_T37 l1 (i : Int)).f1] #[.pointer (some ⟨w.heap.size, 0, none⟩)] #[.int .i64 (rd_T37 l0 (i : Int)).f0, .int .i64 3, .int .i64 (rd_T37 l1 (i : Int)).f1, .pointer (some ⟨w.heap.size, 0, none⟩)] rfl (by rfl) rfl rfl (by (try simp only [List.map_toArray, List.map_cons, List.map_nil]); first | done | rfl | (simp only [List.length_drop, List.length_take]; rfl)) rfl ?_
            with_reducible refine (draw_Spend_1.calls w w.heap.size _ 3 _ o1 o2 _ HS.out H2.out).mono ?_
            rintro e w2 ⟨rfl, hs, hk⟩
            refine ⟨_, rfl, ?_⟩
            have n0_ := Aside0.mk hs
            have n1_ := Aside0.mk (hk.at_ BK.out)
            clear HS BK hs hk
            have HS := n0_
            have BK := n1_
            clear n0_ n1_
            refine hK.out _ _ ?_
            clear hK K
            refine norm_ (a' := ?_) ?_ ?_
            rotate_left
            · show Act.put _ (some 40) _ = _
              simp only [Act.put, List.setIfInBounds_toArray, List.set_cons_zero, List.set_cons_succ, i64_w, i32_w]
              rfl
            refine done_ (done_of HT_.out (by kernel_rfl)) ?_
            have n0_ := Aside0.mk (HS.out.go (below_drew (Below.refl _ _)))
            have n1_ := Aside0.mk (blk_drew BK.out)
            clear HS BK
            have HS := n0_
            have BK := n1_
            clear n0_ n1_
            try go_wp2
            refine start_ (n := 12) (S := fun w' => w'.cell? ⟨wr.heap.size, 0, none⟩ = some (.int .i64 (rd_T37 l0 (i : Int)).f0) ∧ w'.cell? ⟨wr.heap.size, 1, none⟩ = some (.int .i64 (rd_T37 l0 (i : Int)).f1) ∧ w'.cell? ⟨(ad2.add (i * 2)).block, (ad2.add (i * 2)).off + 1, none⟩ = some (.int .i64 (rd_T37 l1 (i : Int)).f1)) (ds := [11]) #[false, false, false, false, false, false, false, false, false, false, false, false] (by kernel_rfl) rfl rfl ⟨(blk_cell BK.out 0).trans rfl, (blk_cell BK.out 1).trans rfl, (HS.out.below.cell (World.block_lt_of_cell? w _ hy1)).trans hy1⟩ (fun hHeld => ?_); refine with_tabW draw_Spend.tab11 draw_Spend.bits11 (fun HT_ HW_ => ?_)
            generalize w2.drew = w2d at HS BK hHeld ⊢
            refine pure_ (i := 0) (N := some 41) (v := ?_) (a' := ?_) #[true, false, false, false, false, false, false, false, false, false, false, false] rfl rfl (any_of HT_.out (by kernel_rfl)) (fun _ _ _ h => h) (Or.inl ⟨by rfl, ?_⟩) ?_ ?_
            rotate_left
            · intro w'
              go_simp
              with_reducible rfl
            rotate_left
            · simp only [Act.put, List.setIfInBounds_toArray, List.set_cons_zero, List.set_cons_succ, i64_w, i32_w]
              rfl
            refine pure_ (i := 1) (N := some 42) (v := ?_) (a' := ?_) #[true, true, false, false, false, false, false, false, false, false, false, false] rfl rfl (any_of HT_.out (by kernel_rfl)) (fun _ _ _ h => h) (Or.inl ⟨by rfl, ?_⟩) ?_ ?_
            rotate_left
            · intro w'
              go_simp
              with_reducible rfl
            rotate_left
            · simp only [Act.put, List.setIfInBounds_toArray, List.set_cons_zero, List.set_cons_succ, i64_w, i32_w]
              rfl
            refine pure_ (i := 3) (N := some 44) (v := ?_) (a' := ?_) #[true, true, false, true, false, false, false, false, false, false, false, false] rfl rfl (any_of HT_.out (by kernel_rfl)) (fun _ _ _ h => h) (Or.inl ⟨by rfl, ?_⟩) ?_ ?_
            rotate_left
            · intro w'
              go_simp
              with_reducible rfl
            rotate_left
            · simp only [Act.put, List.setIfInBounds_toArray, List.set_cons_zero, List.set_cons_succ, i64_w, i32_w]
              rfl
            refine pure_ (i := 5) (N := some 46) (v := ?_) (a' := ?_) #[true, true, false, true, false, true, false, false, false, false, false, false] rfl rfl (any_of HT_.out (by kernel_rfl)) (fun _ _ _ h => h) (Or.inl ⟨by rfl, ?_⟩) ?_ ?_
            rotate_left
            · intro w'
              go_simp
              with_reducible rfl
            rotate_left
            · simp only [Act.put, List.setIfInBounds_toArray, List.set_cons_zero, List.set_cons_succ, i64_w, i32_w]
              rfl
            refine pure_ (i := 6) (N := some 47) (v := ?_) (a' := ?_) #[true, true, false, true, false, true, true, false, false, false, false, false] rfl rfl (any_of HT_.out (by kernel_rfl)) (fun _ _ _ h => h) (Or.inl ⟨by rfl, ?_⟩) ?_ ?_
            rotate_left
            · intro w'
              go_simp
              with_reducible rfl
            rotate_left
            · simp only [Act.put, List.setIfInBounds_toArray, List.set_cons_zero, List.set_cons_succ, i64_w, i32_w]
              rfl
            refine pure_ (i := 7) (N := some 48) (v := ?_) (a' := ?_) #[true, true, false, true, false, true, true, true, false, false, false, false] rfl rfl (any_of HT_.out (by kernel_rfl)) (fun _ _ _ h => h) (Or.inl ⟨by rfl, ?_⟩) ?_ ?_
            rotate_left
            · intro w'
              go_simp
              with_reducible rfl
            rotate_left
            · simp only [Act.put, List.setIfInBounds_toArray, List.set_cons_zero, List.set_cons_succ, i64_w, i32_w]
              rfl
            refine pure_ (i := 8) (N := some 49) (v := ?_) (a' := ?_) #[true, true, false, true, false, true, true, true, true, false, false, false] rfl rfl (any_of HT_.out (by kernel_rfl)) (fun _ _ _ h => h) (Or.inl ⟨by rfl, ?_⟩) ?_ ?_
            rotate_left
            · intro w'
              go_simp
              with_reducible rfl
            rotate_left
            · simp only [Act.put, List.setIfInBounds_toArray, List.set_cons_zero, List.set_cons_succ, i64_w, i32_w]
              rfl
            refine take_ (i := 2) (N := some 43) (v := ?_) (a' := ?_) #[true, true, true, true, false, true, true, true, true, false, false, false] rfl rfl (take_ofW HT_.out HW_.out (by kernel_rfl)) (fun _ _ _ h => h) (Or.inl ⟨by rfl, ?_⟩) hHeld ?_ ?_
            rotate_left
            · rintro w' hs_
              obtain ⟨s0, s1, s2⟩ := hs_
              go_simp
              with_reducible rfl
            rotate_left
            · simp only [Act.put, List.setIfInBounds_toArray, List.set_cons_zero, List.set_cons_succ, i64_w, i32_w]
              rfl
            refine take_ (i := 4) (N := some 45) (v := ?_) (a' := ?_) #[true, true, true, true, true, true, true, true, true, false, false, false] rfl rfl (take_ofW HT_.out HW_.out (by kernel_rfl)) (fun _ _ _ h => h) (Or.inl ⟨by rfl, ?_⟩) hHeld ?_ ?_
            rotate_left
            · rintro w' hs_
              obtain ⟨s0, s1, s2⟩ := hs_
              go_simp
              with_reducible rfl
            rotate_left
            · simp only [Act.put, List.setIfInBounds_toArray, List.set_cons_zero, List.set_cons_succ, i64_w, i32_w]
              rfl
            refine take_ (i := 9) (N := some 50) (v := ?_) (a' := ?_) #[true, true, true, true, true, true, true, true, true, true, false, false] rfl rfl (take_ofW HT_.out HW_.out (by kernel_rfl)) (fun _ _ _ h => h) (Or.inl ⟨by rfl, ?_⟩) hHeld ?_ ?_
            rotate_left
            · rintro w' hs_
              obtain ⟨s0, s1, s2⟩ := hs_
              go_simp
              with_reducible rfl
            rotate_left
            · simp only [Act.put, List.setIfInBounds_toArray, List.set_cons_zero, List.set_cons_succ, i64_w, i32_w]
              rfl
            refine pure_ (i := 10) (N := some 51) (v := ?_) (a' := ?_) #[true, true, true, true, true, true, true, true, true, true, true, false] rfl rfl (any_of HT_.out (by kernel_rfl)) (fun _ _ _ h => h) (Or.inl ⟨by rfl, ?_⟩) ?_ ?_
            rotate_left
            · intro w'
              go_simp
              with_reducible rfl
            rotate_left
            · simp only [Act.put, List.setIfInBounds_toArray, List.set_cons_zero, List.set_cons_succ, i64_w, i32_w]
              rfl
            refine last_ (i := 11) (N := some 52) #[true, true, true, true, true, true, true, true, true, true, true, true] rfl rfl (one_of HT_.out (by kernel_rfl)) (by decide) (fun K hK => ?_)
            refine goesVC_ Try.func32 (by kernel_rfl) rfl #[.int .i64 (rd_T37 l0 (i : Int)).f0, .int .i64 1, .int .i64 (wrap64 ((rd_T37 l0 (i : Int)).f1 - (rd_T37 l1 (i : Int)).f1))] #[.pointer (some ⟨w.heap.size, 0, none⟩)] #[.int .i64 (rd_T37 l0 (i : Int)).f0, .int .i64 1, .int .i64 (wrap64 ((rd_T37 l0 (i : Int)).f1 - (rd_T37 l1 (i : Int)).f1)), .pointer (some ⟨w.heap.size, 0, none⟩)] rfl (by rfl) rfl rfl (by (try simp only [List.map_toArray, List.map_cons, List.map_nil]); first | done | rfl | (simp only [List.length_drop, List.length_take]; rfl)) rfl ?_
            with_reducible refine (draw_Spend_1.calls w w.heap.size _ 1 _ o2 o3 _ HS.out H3.out).mono ?_
            rintro e w3 ⟨rfl, hs, hk⟩
            refine ⟨_, rfl, ?_⟩
            have n0_ := Aside0.mk hs
            have n1_ := Aside0.mk (hk.at_ BK.out)
            clear HS BK hs hk
            have HS := n0_
            have BK := n1_
            clear n0_ n1_
            refine hK.out _ _ ?_
            clear hK K
            refine norm_ (a' := ?_) ?_ ?_
            rotate_left
            · show Act.put _ (some 52) _ = _
              simp only [Act.put, List.setIfInBounds_toArray, List.set_cons_zero, List.set_cons_succ, i64_w, i32_w]
              rfl
            refine done_ (done_of HT_.out (by kernel_rfl)) ?_
            try go_wp2
            go_roundg k1
            case measure => omega
            case rel => exact ⟨i + 1, o3, by rw [HW.out], H', ⟨by have := HLT.out; omega⟩, HS⟩
        · rw [if_neg (by omega)] at H
          obtain rfl := Option.some.inj H
          have f1 : decide ((i : Int) < (l0.length : Int)) = false := decide_eq_false (by omega)
          have f2 : decide (i < l0.length) = false := decide_eq_false c3
          obtain ⟨v, hbk, hO⟩ := HS.out.ex
          obtain ⟨A, c, ev, hcc, _⟩ := Kd.R_reads hO
          subst ev
          have HCC := Aside0.mk hcc
          have hcl : wr.cell? ⟨w.heap.size, 0, none⟩ = some (.slice A out.length c) := (blk_cell hbk 0).trans rfl
          have HV := Aside0.mk (show Kd.V k64 64 wr w.heap.size (fun k_ => (w.heap.size ≤ k_)) (.slice A out.length out.length) out from by
            have h1 := Kd.R_F (Kd.R_mono (Kd.R_bound hO) (fun k hk => hk.2.1))
            exact Kd.V_mk (Nat.le_refl _) h1)
          clear H c3 hO hbk hcc
          go_wp2_with (go_at_call 34; with_reducible refine (clipL_at A out.length c _ HCC.out).mono ?_; rintro e w3 ⟨rfl, rfl⟩)
          go_ret
          exact ⟨_, rfl, HV.out, HS.out.below⟩
end Go.Proofs.Ytlccomoiajnkmaa.PAll
end
section
namespace Go.Proofs.Ytlccomoiajnkmaa.PAll
open Go.RowKit Go.Proofs.YtlccomoiajnkmaaW.PrintWords Go.Proofs.YtlccomoiajnkmaaW.PrintLast Go.Proofs.YtlccomoiajnkmaaW.PrintMore
attribute [local go_sem] max2_int min2_int max_two min_two max_three min_three max_four min_four   -- for this text's walks alone
set_option linter.unusedVariables false
set_option linter.unusedSimpArgs false

def slices_Clone_Draw.f (l0 : List (S37)) : Option ((List (S37))) := (some (([] : List (S37)) : List (S37))).bind fun y210 => (if y210.length + l0.length < 8796093022208 then (some (y210 ++ l0)) else (none))
set_option maxHeartbeats 8000000 in
set_option maxRecDepth 100000 in
theorem slices_Clone_Draw.calls_some (ad0_ : Addr) (c0 : Nat) (l0 : List (S37)) (r : List (S37)) (w : World) (hr0 : Kd.C k37 w (some ad0_) l0.length l0) (hc0 : l0.length ≤ c0) (h : slices_Clone_Draw.f l0 = some r) :
    Calls Try.prog 36 #[.slice (some ad0_) l0.length c0] w fun e w' => ∃ v0_ : Value, e = .returned (v0_) ∧ Kd.R k37 37 w' w.heap.size (fun _ => True) v0_ r ∧ Below w.heap.size w w' := by
  have HR0 := Aside0.mk hr0
  have HC0 := Aside0.mk hc0
  clear hr0 hc0
  have HB := Aside0.mk (Below.refl w.heap.size w)
  have H : ((some (([] : List (S37)) : List (S37))).bind fun y210 => (if y210.length + l0.length < 8796093022208 then (some (y210 ++ l0)) else (none))) = some r := h
  clear h
  obtain ⟨y210, hy210⟩ : ∃ y_ : List (S37), y_ = (([] : List (S37))) := ⟨_, rfl⟩
  replace H : (if y210.length + l0.length < 8796093022208 then (some (y210 ++ l0)) else (none)) = some r := by first | (rw [hy210]; with_reducible exact H) | (have H2_ := (Option.bind_some _ _).symm.trans H; rw [hy210]; with_reducible exact H2_) | (have H2_ := (Option.bind_some _ _).symm.trans H; with_reducible exact H2_) | with_reducible exact H | (rw [hy210]; exact H) | exact H
  have Ny210 := Aside0.mk hy210
  clear hy210
  by_cases c2 : y210.length + l0.length < 8796093022208
  · rw [if_pos c2] at H
    have LMc2 := Aside0.mk c2
    clear c2
    obtain ⟨y213, hy213⟩ : ∃ y_ : List (S37), y_ = (y210 ++ l0) := ⟨_, rfl⟩
    replace H : (some y213) = some r := by first | (rw [hy213]; with_reducible exact H) | (have H2_ := (Option.bind_some _ _).symm.trans H; rw [hy213]; with_reducible exact H2_) | (have H2_ := (Option.bind_some _ _).symm.trans H; with_reducible exact H2_) | with_reducible exact H | (rw [hy213]; exact H) | exact H
    have Ny213 := Aside0.mk hy213
    clear hy213
    obtain rfl := Option.some.inj H
    have hnil_ := fun (W : World) => Lib.run_eql_slice_nil (P := Try.prog) W 26 37 (some ad0_) l0.length c0 0 0 Try.underlying26
    go_enter Try.func36, Try.ntmps36
    go_wp2_with (first | ((with_reducible refine gate_dst (N := 5) rfl ?_); refine Kd.R_lit k37 _ 37 ?hg (N := 5) ?hd (xs := ([] : List (S37))) (inner := []) (ok := fun _ => True) (okp := fun _ => True) ?hr ?hp (fun _ hk => hk) trivial (Below.refl _ _) (Nat.le_refl _) (by simp) ?_; (case hd => rfl); (case hg => rfl); (case hr => first | (go_simp; done) | (go_simp; rfl)); (case hp => exact (Reps.none _ _)); intro v211 w3 ho4 hb hg_ hnew_; clear hg_ hnew_; (first | rw [← Ny210.out] at ho4 | (simp only [Int.reduceToNat] at ho4; rw [← Ny210.out] at ho4)); have n0_ := Aside0.mk (Kd.R_lower ho4 (below_size (by repeat (first | (with_reducible first | exact HB.out | apply below_alloc | apply pw_below_drewN | apply below_drew1) | exact HB.out)))); have n1_ := Aside0.mk (below_step (by repeat (first | (with_reducible first | exact HB.out | apply below_alloc | apply pw_below_drewN | apply below_drew1) | exact HB.out)) hb); clear HB; have HO212 := n0_; have HB := n1_; clear n0_ n1_; clear hb ho4) | ((with_reducible refine gate_builtin (b := .append) (xs := #[.tmp 5, .tmp 6]) rfl ?_); at_builtin; refine Kd.R_append_rows k37 (w0 := w) w.heap.size rfl (.tmp 5) (.tmp 6) 26 37 (.agg #[(.int .i64 0), (.int .i64 0)]) 16 rfl Try.underlying26 info37 rfl (by decide) (by omega) v211 y210 l0 _ _ _ (fun _ => True) (fun _ => False) rfl rfl ?aO ?aR (fun _ _ h => h) (fun _ h => h.elim) ?aF ?aB ?aS ?aL ?_; (case aR => repeat (first | exact (Kd.C_below HR0.out HB.out) | (with_reducible refine Kd.C_alloc ?_ _) | (with_reducible refine Kd.C_drewN ?_ _) | (with_reducible refine Kd.C_drew ?_))); (case aB => exact (by repeat (first | (with_reducible first | exact HB.out | apply below_alloc | apply pw_below_drewN | apply below_drew1) | exact HB.out))); (case aF => exact (fun _ _ => trivial)); (case aO => exact (by (with_reducible repeat (first | apply Kd.R_alloc | apply Kd.R_drewN | apply Kd.R_drew)); exact HO212.out)); (case aS => exact (below_size (by repeat (first | (with_reducible first | exact HB.out | apply below_alloc | apply pw_below_drewN | apply below_drew1) | exact HB.out)))); (case aL => have := LMc2.out; omega); intro v214 w5 ho hb hg hat; rw [← Ny213.out] at ho; have n0_ := Aside0.mk (hb); have n1_ := Aside0.mk (ho); clear HB; clear HO212; have HB := n0_; have HO215 := n1_; clear n0_ n1_; clear ho hb hg hat))
    go_ret
    exact ⟨_, by first | rfl | (simp [errW_none, errW_some] <;> rfl) | (simp [*, errW_none, errW_some] <;> rfl), by (with_reducible repeat (first | apply Kd.R_alloc | apply Kd.R_drewN | apply Kd.R_drew)); exact HO215.out, by repeat (first | (with_reducible first | exact HB.out | apply below_alloc | apply pw_below_drewN | apply below_drew1) | exact HB.out)⟩
  · rw [if_neg c2] at H
    exact absurd H (by simp)

set_option maxHeartbeats 8000000 in
theorem slices_Clone_Draw.calls (A0 : Option Addr) (c0 : Nat) (l0 : List (S37)) (r : List (S37)) (w : World) (hr0 : Kd.C k37 w A0 l0.length l0) (hc0 : l0.length ≤ c0) (h : slices_Clone_Draw.f l0 = some r) :
    Calls Try.prog 36 #[.slice A0 l0.length c0] w fun e w' => ∃ v0_ : Value, e = .returned (v0_) ∧ Kd.R k37 37 w' w.heap.size (fun _ => True) v0_ r ∧ Below w.heap.size w w' := by
  cases A0 with
  | some ad0_ => exact slices_Clone_Draw.calls_some ad0_ c0 l0 r w hr0 hc0 h
  | none =>
    have hl : l0 = [] := by
      cases l0 with
      | nil => rfl
      | cons x xs => obtain ⟨ad, he, _⟩ := hr0.2.2 (by simp); cases he
    subst hl
    have hr : r = [] := by
      simp [slices_Clone_Draw.f] at h; first | exact h | exact h.symm
    subst hr
    have hnil_ := fun (W : World) => Lib.run_eql_slice_nil (P := Try.prog) W 26 37 none 0 c0 0 0 Try.underlying26
    clear hr0 hc0 h
    go_enter Try.func36, Try.ntmps36
    go_wp2
    go_ret
    exact ⟨_, rfl, Kd.R_nil _ _ _ _ _, Below.refl _ _⟩

end Go.Proofs.Ytlccomoiajnkmaa.PAll
end
section
namespace Go.Proofs.Ytlccomoiajnkmaa.PAll
open Go.RowKit Go.Proofs.YtlccomoiajnkmaaW.PrintWords Go.Proofs.YtlccomoiajnkmaaW.PrintLast Go.Proofs.YtlccomoiajnkmaaW.PrintMore
attribute [local go_sem] max2_int min2_int max_two min_two max_three min_three max_four min_four   -- for this text's walks alone
set_option linter.unusedVariables false
set_option linter.unusedSimpArgs false

theorem clipD_at (A : Option Addr) (n c : Nat) (w : World) (hc : n ≤ c) :
    Calls Try.prog 28 #[.slice A n c] w fun e w' => e = .returned (.slice A n n) ∧ w' = w := by
  have hcut := slices_Clip_Draw.cut A n c hc
  go_enter Try.func28, Try.ntmps28
  go_wp2
  go_ret
  exact ⟨rfl, rfl⟩
theorem amt_cell {W : World} {base g n c : Nat} {ok : Nat → Prop} {l : List S37} (h : Kd.R k37 37 W base ok (.slice (some ⟨g, 0, none⟩) n c) l) (i : Nat) (hi : i < n) :
    W.cell? ⟨g, i * 2 + 1, none⟩ = some (.int .i64 (rd_T37 l (i : Int)).f1) ∧ W.frozen? ⟨g, i * 2 + 1, none⟩ = false := by
  obtain ⟨cs, hcl, hM, hc, hf⟩ := Kd.R_elem h z37 (i : Int) (by omega) (by omega)
  have hcs := k37_openM hM
  have hsz : k37.sz = 2 := rfl
  rw [hsz, show ((i : Int)).toNat = i by omega] at hc hf
  exact ⟨hc 1 _ (by rw [hcs]; rfl), hf 1⟩
theorem amt_store {W : World} {base g n c : Nat} {ok : Nat → Prop} {l : List S37} (h : Kd.R k37 37 W base ok (.slice (some ⟨g, 0, none⟩) n c) l) (i : Nat) (hi : i < n) (v : Int) :
    Kd.R k37 37 (W.setCell ⟨g, i * 2 + 1, none⟩ (.int .i64 v)) base ok (.slice (some ⟨g, 0, none⟩) n c) (l.set i ⟨(rd_T37 l (i : Int)).f0, v⟩) := by
  obtain ⟨cs, hcl, hM, hc, hf⟩ := Kd.R_elem h z37 (i : Int) (by omega) (by omega)
  have hcs := k37_openM hM
  have hsz : k37.sz = 2 := rfl
  have := (Kd.R_seg h (i : Int) (by omega) (by omega) hcl hc (seg := [.int .i64 v]) (j := 1) (by rw [hsz]; simp) (x' := (⟨(rd_T37 l (i : Int)).f0, v⟩ : S37)) (okp := fun k => ok k ∧ k ≠ g) (by
      show k37.M W base _ _ (cs.take 1 ++ [.int .i64 v] ++ cs.drop (1 + 1))
      rw [hcs]; exact k37_mkM _ _ _ (⟨(rd_T37 l (i : Int)).f0, v⟩ : S37)) (fun k hk => hk)).1
  rw [hsz, show ((i : Int)).toNat = i by omega] at this
  simpa [World.setCells] using this
def draw_Charge.l0 : Nat → List S37 → List S37 → Int → Int → Option (List S37 × Int)
  | 0, _, _, _, _ => none
  | k + 1, ds, out, am, i => if i < (ds.length : Int) then (if 0 ≤ i then (if (rd_T37 ds i).f1 < 0 then some ([], 7) else draw_Charge.l0 k ds (out.set i.toNat ⟨(rd_T37 out i).f0, min am (rd_T37 ds i).f1⟩) (wrap64 (am - min am (rd_T37 ds i).f1)) (wrap64 (i + 1))) else none) else if am > 0 then some ([], 7) else some (out, 0)
def draw_Charge.f (k : Nat) (l0 : List S37) (a1 : Int) : Option (List S37 × Int) := if a1 < 0 then some ([], 1) else if (l0.length : Int) < 1000000 then draw_Charge.l0 k l0 l0 a1 0 else none
theorem cloneD_f (l : List S37) (h : (l.length : Int) < 1000000) : slices_Clone_Draw.f l = some l := by
  unfold slices_Clone_Draw.f; simp only [Option.bind_some]; rw [if_pos (by simp; omega)]; rfl
theorem draw_Charge.mono_l : ∀ k y0 y1 y2 y3, LeO (draw_Charge.l0 k y0 y1 y2 y3) (draw_Charge.l0 (k + 1) y0 y1 y2 y3)
  | 0 => fun _ _ _ _ r h => by simp [draw_Charge.l0] at h
  | k + 1 => by
    have ih := draw_Charge.mono_l k
    · intro y0 y1 y2 y3
      unfold draw_Charge.l0
      repeat' first
      | (with_reducible exact ih _ _ _ _)
      | (with_reducible exact LeO.refl _)
      | (with_reducible exact LeO.none _)
      | (with_reducible refine LeO.ite ?_ ?_)
      | exact LeO.none _
      | refine LeO.ite ?_ ?_
      | exact LeO.refl _
theorem draw_Charge.mono : ∀ a0 a1 k, LeO (draw_Charge.f k a0 a1) (draw_Charge.f (k + 1) a0 a1) := by
  intro a0 a1 k
  unfold draw_Charge.f
  repeat' first
      | (with_reducible exact draw_Charge.mono_l _ _ _ _ _)
      | (with_reducible exact LeO.refl _)
      | (with_reducible exact LeO.none _)
      | (with_reducible refine LeO.ite ?_ ?_)
      | exact LeO.none _
      | refine LeO.ite ?_ ?_
      | exact LeO.refl _
set_option maxHeartbeats 8000000 in
set_option maxRecDepth 100000 in
theorem draw_Charge.calls (k : Nat) (A0 : Option Addr) (c0 : Nat) (l0 : List (S37)) (a1 : Int) (r1 : List S37) (r2 : Int) (w : World) (hr0 : Kd.C k37 w A0 l0.length l0) (hc0 : l0.length ≤ c0) (h : draw_Charge.f k l0 a1 = some (r1, r2)) :
    Calls Try.prog 21 #[.slice A0 l0.length c0, .int .i64 a1] w fun e w' => ∃ v0_ : Value, e = .returned (.tuple #[v0_, .int .i64 r2]) ∧ Kd.V k37 37 w' w.heap.size (fun k_ => (w.heap.size ≤ k_)) v0_ r1 ∧ Below w.heap.size w w' := by
  have HR0 := Aside0.mk hr0
  have HC0 := Aside0.mk hc0
  have HB := Aside0.mk (Below.refl w.heap.size w)
  unfold draw_Charge.f at h
  clear hr0 hc0
  by_cases c1 : a1 < 0
  · rw [if_pos c1] at h
    obtain ⟨rfl, rfl⟩ : [] = r1 ∧ 1 = r2 := by simpa using h
    have d1 : decide (a1 < 0) = true := decide_eq_true c1
    clear h c1
    go_enter Try.func21, Try.ntmps21
    go_wp2
    go_ret2
    exact ⟨_, rfl, Kd.V_nil _ _ _ _ _, HB.out⟩
  · rw [if_neg c1] at h
    have d1 : decide (a1 < 0) = false := decide_eq_false c1
    by_cases c2 : (l0.length : Int) < 1000000
    · rw [if_pos c2] at h
      have H' := Aside0.mk h
      have HF := Aside0.mk (cloneD_f l0 c2)
      have HN := Aside0.mk c2
      clear h c1 c2
      go_enter Try.func21, Try.ntmps21
      go_wp2_with (first | (go_at_call 36; with_reducible refine (slices_Clone_Draw.calls A0 c0 l0 l0 _ HR0.out HC0.out HF.out).mono ?_; rintro e w2 ⟨v, rfl, ho, hb⟩; obtain ⟨A, c, rfl, hcc, hC⟩ := Kd.R_reads ho; have HO := Aside0.mk ho; have HCC := Aside0.mk hcc; clear HB; have HB := Aside0.mk hb; clear ho hb hcc hC) | (go_at_call 28; with_reducible refine (clipD_at A l0.length c _ HCC.out).mono ?_; rintro e w3 ⟨rfl, rfl⟩))
      go_loopg [1, 16] k (fun kq v1 v16 wc => ∃ (i : Nat) (am : Int) (out : List S37), v1 = .int .i64 am ∧ v16 = .int .i64 (i : Int) ∧ Aside0 (draw_Charge.l0 kq l0 out am (i : Int) = some (r1, r2)) ∧ Aside0 (out.length = l0.length ∧ i ≤ l0.length) ∧ Aside0 (Kd.R k37 37 wc w.heap.size (fun _ => True) (.slice A l0.length c) out) ∧ Aside0 (Below w.heap.size w wc))
      case atStart => exact ⟨0, a1, l0, rfl, rfl, H', ⟨rfl, by omega⟩, HO, HB⟩
      case round =>
        clear H' HO HB
        obtain ⟨i, am, out, rfl, rfl, HH, HL, HO, HB⟩ := hrel
        cases gk with
        | zero => exact absurd HH.out (by simp [draw_Charge.l0])
        | succ k1 =>
          have H := HH.out
          clear HH
          simp only [draw_Charge.l0] at H
          by_cases c3 : i < l0.length
          · rw [if_pos (by omega), if_pos (by omega)] at H
            have HLT := Aside0.mk c3
            obtain ⟨g, cap, hv, hg0, hglt, hgc⟩ := Kd.R_form HO.out (by have := HL.out; omega)
            obtain ⟨rfl, rfl⟩ : A = some ⟨g, 0, none⟩ ∧ c = cap := by injection hv with h1 h2 h3; exact ⟨h1, h3⟩
            clear hv hgc
            have HG0 := Aside0.mk hg0
            have HGL := Aside0.mk hglt
            clear hg0 hglt
            obtain ⟨ad, ead, hx0, hx1⟩ := at_T37 HR0.out (i : Int) (by omega) (by omega)
            cases ead
            rw [show ((i : Int)).toNat = i by omega] at hx0 hx1
            replace hx0 := (HB.out.cell (World.block_lt_of_cell? w _ hx0)).trans hx0
            replace hx1 := (HB.out.cell (World.block_lt_of_cell? w _ hx1)).trans hx1
            have hi1 : decide ((i : Int) < (l0.length : Int)) = true := decide_eq_true (by omega)
            have hi2 : decide (i < l0.length) = true := decide_eq_true c3
            have hi3 : (i < l0.length) = True := eq_true c3
            by_cases c4 : (rd_T37 l0 (i : Int)).f1 < 0
            · rw [if_pos c4] at H
              obtain ⟨rfl, rfl⟩ : [] = r1 ∧ 7 = r2 := by simpa using H
              have f3 : decide ((rd_T37 l0 (i : Int)).f1 < 0) = true := decide_eq_true c4
              clear H c4 c3
              go_wp2
              go_ret2
              exact ⟨_, rfl, Kd.V_nil _ _ _ _ _, below_alloc HB.out _⟩
            · rw [if_neg c4] at H
              have f3 : decide ((rd_T37 l0 (i : Int)).f1 < 0) = false := decide_eq_false c4
              have H' := Aside0.mk H
              clear H c4 c3
              obtain ⟨q1, q2⟩ := amt_cell (Kd.R_below HO.out (below_alloc (Below.refl _ _) (.cells #[.int .i64 (rd_T37 l0 (i : Int)).f0, .int .i64 (rd_T37 l0 (i : Int)).f1] 37 (0, 0)))) i (by have := HL.out; have := HLT.out; omega)
              have HW : Aside0 (wrap64 ((i : Int) + 1) = ((i + 1 : Nat) : Int)) := ⟨by have := HN.out; have := HLT.out; unfold wrap64; omega⟩
              have HT : Aside0 ((i : Int).toNat = i) := ⟨by omega⟩
              rw [HW.out, HT.out] at H'
              go_wp2
              all_goals (
                go_roundg k1
                case measure => omega
                case rel => exact ⟨i + 1, wrap64 (am - min am (rd_T37 l0 (i : Int)).f1), out.set i ⟨(rd_T37 out (i : Int)).f0, min am (rd_T37 l0 (i : Int)).f1⟩, by (first | rw [show min am (rd_T37 l0 (i : Int)).f1 = am by omega] | rw [show min am (rd_T37 l0 (i : Int)).f1 = (rd_T37 l0 (i : Int)).f1 by omega]); first | done | rfl | (simp; done), by rw [HW.out], H', ⟨by have := HL.out.1; have := HLT.out; rw [List.length_set]; omega⟩, ⟨by (first | rw [show min am (rd_T37 l0 (i : Int)).f1 = am by omega] | rw [show min am (rd_T37 l0 (i : Int)).f1 = (rd_T37 l0 (i : Int)).f1 by omega]); exact amt_store (Kd.R_below HO.out (below_alloc (Below.refl _ _) _)) i (by have := HLT.out; omega) _⟩, ⟨below_set (below_alloc HB.out _) HG0.out⟩⟩)
          · rw [if_neg (by omega)] at H
            have f1 : decide ((i : Int) < (l0.length : Int)) = false := decide_eq_false (by omega)
            have f2 : decide (i < l0.length) = false := decide_eq_false c3
            have HV := Aside0.mk (show Kd.V k37 37 wr w.heap.size (fun k_ => (w.heap.size ≤ k_)) (.slice A l0.length l0.length) out from by
              have h1 := Kd.R_F (Kd.R_mono (Kd.R_bound HO.out) (fun k hk => hk.2.1))
              rw [← HL.out.1] at h1 ⊢
              exact Kd.V_mk (Nat.le_refl _) h1)
            by_cases c4 : am > 0
            · rw [if_pos c4] at H
              obtain ⟨rfl, rfl⟩ : [] = r1 ∧ 7 = r2 := by simpa using H
              have f3 : decide (0 < am) = true := decide_eq_true c4
              clear H c4 c3
              go_wp2
              go_ret2
              exact ⟨_, rfl, Kd.V_nil _ _ _ _ _, HB.out⟩
            · rw [if_neg c4] at H
              obtain ⟨rfl, rfl⟩ : out = r1 ∧ 0 = r2 := by simpa using H
              have f3 : decide (0 < am) = false := decide_eq_false c4
              clear H c4 c3
              go_wp2
              go_ret2
              exact ⟨_, rfl, HV.out, HB.out⟩
    · rw [if_neg c2] at h; simp at h
end Go.Proofs.Ytlccomoiajnkmaa.PAll
end
section
namespace Go.Proofs.Ytlccomoiajnkmaa.PAll
open Go.RowKit Go.Proofs.YtlccomoiajnkmaaW.PrintWords Go.Proofs.YtlccomoiajnkmaaW.PrintLast Go.Proofs.YtlccomoiajnkmaaW.PrintMore
attribute [local go_sem] max2_int min2_int max_two min_two max_three min_three max_four min_four   -- for this text's walks alone
set_option linter.unusedVariables false
set_option linter.unusedSimpArgs false

theorem eqA37 (d : Nat) (w : World) (x0 y0 : Int) (x1 y1 : Int) :
    (Op.equalIn (d + 2) 37 (.agg #[.int .i64 x0, .int .i64 x1]) (.agg #[.int .i64 y0, .int .i64 y1])).run Try.prog w = .ok (x0 == y0 && (x1 == y1)) w := by
  refine eqA_of Try.underlying37 (by kernel_rfl) ?_
  refine eqf_cons (by rfl) (by go_simp; rfl) (by go_simp; rfl) (by go_simp) ?_
  exact eqf_last (by rfl) (by go_simp; rfl) (by go_simp; rfl) (by go_simp)
end Go.Proofs.Ytlccomoiajnkmaa.PAll
end
section
namespace Go.Proofs.Ytlccomoiajnkmaa.PAll
open Go.RowKit Go.Proofs.YtlccomoiajnkmaaW.PrintWords Go.Proofs.YtlccomoiajnkmaaW.PrintLast Go.Proofs.YtlccomoiajnkmaaW.PrintMore
attribute [local go_sem] max2_int min2_int max_two min_two max_three min_three max_four min_four   -- for this text's walks alone
set_option linter.unusedVariables false
set_option linter.unusedSimpArgs false

attribute [local go_sem high] eqA37
def prebendref11_Alike.l0 : Nat → List (S37) → List (S37) → Int → Option (Bool)
  | 0, _, _, _ => none
  | k + 1, x0, x1, x5 => if x5 < (x0.length : Int) then (if 0 ≤ x5 then (if x5 < (x1.length : Int) then (if (!(((rd_T37 x0 x5).f0) == ((rd_T37 x1 x5).f0)) || (!(((rd_T37 x0 x5).f1) == ((rd_T37 x1 x5).f1)))) = true then (some false) else (prebendref11_Alike.l0 k x0 x1 (wrap64 (x5 + 1)))) else (none)) else (none)) else (some true)
def prebendref11_Alike.f (k : Nat) (l0 : List (S37)) (l1 : List (S37)) : Option (Bool) := if (l0.length : Int) = (l1.length : Int) then (prebendref11_Alike.l0 k l0 l1 0) else (some false)
theorem prebendref11_Alike.mono_l : ∀ k, (∀ y0 y1 y2, LeO (prebendref11_Alike.l0 k y0 y1 y2) (prebendref11_Alike.l0 (k + 1) y0 y1 y2))
  | 0 => fun _ _ _ r h => by simp [prebendref11_Alike.l0] at h
  | k + 1 => by
    have ih0 := prebendref11_Alike.mono_l k
    · intro y0 y1 y2
      unfold prebendref11_Alike.l0
      repeat' first
      | (with_reducible exact ih0 _ _ _)
      | (with_reducible exact LeO.refl _)
      | (with_reducible exact LeO.none _)
      | (with_reducible refine LeO.ite ?_ ?_)
      | (with_reducible refine LeO.bind ?_ (fun _ => ?_))
      | exact ih0 _ _ _
      | exact LeO.none _
      | refine LeO.ite ?_ ?_
      | refine LeO.bind ?_ (fun _ => ?_)
theorem prebendref11_Alike.mono : ∀ a0 a1 k, LeO (prebendref11_Alike.f k a0 a1) (prebendref11_Alike.f (k + 1) a0 a1) := by
  intro a0 a1 k
  have ih0 := prebendref11_Alike.mono_l k
  unfold prebendref11_Alike.f
  repeat' first
      | (with_reducible exact ih0 _ _ _)
      | (with_reducible exact LeO.refl _)
      | (with_reducible exact LeO.none _)
      | (with_reducible refine LeO.ite ?_ ?_)
      | (with_reducible refine LeO.bind ?_ (fun _ => ?_))
      | exact ih0 _ _ _
      | exact LeO.none _
      | refine LeO.ite ?_ ?_
      | refine LeO.bind ?_ (fun _ => ?_)
set_option maxHeartbeats 8000000 in
set_option maxRecDepth 100000 in
theorem prebendref11_Alike.calls (k : Nat) (A0 : Option Addr) (c0 : Nat) (l0 : List (S37)) (A1 : Option Addr) (c1 : Nat) (l1 : List (S37)) (r : Bool) (w : World) (hr0 : Kd.C k37 w A0 l0.length l0) (hc0 : l0.length ≤ c0) (hr1 : Kd.C k37 w A1 l1.length l1) (hc1 : l1.length ≤ c1) (h : prebendref11_Alike.f k l0 l1 = some r) :
    Calls Try.prog 12 #[.slice A0 l0.length c0, .slice A1 l1.length c1] w fun e w' => e = .returned (.bool r) ∧ Drawn0 w w' := by
  have hu37 := Try.underlying37
  have HR0 := Aside0.mk hr0
  have HC0 := Aside0.mk hc0
  clear hr0 hc0
  have HR1 := Aside0.mk hr1
  have HC1 := Aside0.mk hc1
  clear hr1 hc1
  have H : (if (l0.length : Int) = (l1.length : Int) then (prebendref11_Alike.l0 k l0 l1 0) else (some false)) = some r := h
  clear h
  by_cases c3 : (l0.length : Int) = (l1.length : Int)
  · rw [if_pos c3] at H
    have c3b0 : ((l0.length : Int) == (l1.length : Int)) = true := beq_iff_eq.mpr c3
    have c3b1 : ((l0.length : Int) != (l1.length : Int)) = false := bne_eq_false_iff_eq.mpr c3
    have c3b2 : (l0.length == l1.length) = true := by first | simpa using c3 | (simp at c3 ⊢; omega)
    clear c3
    have H' := Aside0.mk H
    clear H
    go_enter Try.func12, Try.ntmps12
    go_wp2
    repeat (go_quiet (fail); try go_wp2)
    go_loopg [5] k (fun kq v5 w' => ∃ (x5_1 : Int), v5 = .int .i64 x5_1 ∧ Aside0 (prebendref11_Alike.l0 kq l0 l1 x5_1 = some r) ∧ Aside0 (kq ≤ k) ∧ Drawn0 w w')
    case atStart => exact ⟨(0), (by first | rfl | (simp; done) | (simp [*]; done)), H', ⟨Nat.le_refl _⟩, by repeat (first | exact Drawn0.refl _ | apply Drawn0.step)⟩
    case round =>
      clear H'
      try clear c1
      try clear p2
      try clear c3
      try clear c3b0
      try clear c3b1
      try clear c3b2
      obtain ⟨x5_1, rfl, HA, HK1, ⟨m1, rfl⟩⟩ := hrel
      cases gk with
      | zero => exact absurd HA.out (by simp [prebendref11_Alike.l0])
      | succ k1 =>
        have H := HA.out
        clear HA
        simp only [prebendref11_Alike.l0] at H
        by_cases c4 : x5_1 < (l0.length : Int)
        · rw [if_pos c4] at H
          have c4b0 : decide (x5_1 < (l0.length : Int)) = true := decide_eq_true c4
          clear c4
          by_cases c5 : 0 ≤ x5_1
          · rw [if_pos c5] at H
            have c5b0 : decide (0 ≤ x5_1) = true := decide_eq_true c5
            clear c5
            by_cases c6 : x5_1 < (l1.length : Int)
            · rw [if_pos c6] at H
              have c6b0 : decide (x5_1 < (l1.length : Int)) = true := decide_eq_true c6
              clear c6
              by_cases c7 : (!(((rd_T37 l0 x5_1).f0) == ((rd_T37 l1 x5_1).f0)) || (!(((rd_T37 l0 x5_1).f1) == ((rd_T37 l1 x5_1).f1)))) = true
              · rw [if_pos c7] at H
                have c7b0 : (!(((rd_T37 l0 x5_1).f0) == ((rd_T37 l1 x5_1).f0)) || (!(((rd_T37 l0 x5_1).f1) == ((rd_T37 l1 x5_1).f1)))) = true := c7
                clear c7
                obtain rfl := Option.some.inj H
                have p186 : 0 ≤ (x5_1 : Int) := of_decide_eq_true (by first | (with_reducible assumption) | assumption)
                have q186 : x5_1 < (l0.length : Int) := of_decide_eq_true (by first | (with_reducible assumption) | assumption)
                obtain ⟨ad186, e186, hx186_0, hx186_1⟩ := at_T37 HR0.out x5_1 p186 q186
                cases e186
                replace p186 := eq_true p186
                replace q186 := eq_true q186
                have p187 : 0 ≤ (x5_1 : Int) := of_decide_eq_true (by first | (with_reducible assumption) | assumption)
                have q187 : x5_1 < (l1.length : Int) := of_decide_eq_true (by first | (with_reducible assumption) | assumption)
                obtain ⟨ad187, e187, hx187_0, hx187_1⟩ := at_T37 HR1.out x5_1 p187 q187
                cases e187
                replace p187 := eq_true p187
                replace q187 := eq_true q187
                go_wp2
                repeat (go_quiet (fail); try go_wp2)
                go_ret
                exact ⟨by first | rfl | (simp; done) | (simp [*]; done), by repeat (first | exact Drawn0.refl _ | apply Drawn0.step)⟩
              · rw [if_neg c7] at H
                have c7b0 : (!(((rd_T37 l0 x5_1).f0) == ((rd_T37 l1 x5_1).f0)) || (!(((rd_T37 l0 x5_1).f1) == ((rd_T37 l1 x5_1).f1)))) = false := by simpa using c7
                clear c7
                have H' := Aside0.mk H
                clear H
                have p186 : 0 ≤ (x5_1 : Int) := of_decide_eq_true (by first | (with_reducible assumption) | assumption)
                have q186 : x5_1 < (l0.length : Int) := of_decide_eq_true (by first | (with_reducible assumption) | assumption)
                obtain ⟨ad186, e186, hx186_0, hx186_1⟩ := at_T37 HR0.out x5_1 p186 q186
                cases e186
                replace p186 := eq_true p186
                replace q186 := eq_true q186
                have p187 : 0 ≤ (x5_1 : Int) := of_decide_eq_true (by first | (with_reducible assumption) | assumption)
                have q187 : x5_1 < (l1.length : Int) := of_decide_eq_true (by first | (with_reducible assumption) | assumption)
                obtain ⟨ad187, e187, hx187_0, hx187_1⟩ := at_T37 HR1.out x5_1 p187 q187
                cases e187
                replace p187 := eq_true p187
                replace q187 := eq_true q187
                go_wp2
                repeat (go_quiet (fail); try go_wp2)
                go_roundg k1
                case measure => have := HK1.out; omega
                case rel => exact ⟨(wrap64 (x5_1 + 1)), (by first | rfl | (simp; done) | (simp [*]; done)), H', ⟨by have := HK1.out; omega⟩, by repeat (first | exact Drawn0.refl _ | apply Drawn0.step)⟩
            · rw [if_neg c6] at H
              exact absurd H (by simp)
          · rw [if_neg c5] at H
            exact absurd H (by simp)
        · rw [if_neg c4] at H
          have c4b0 : decide (x5_1 < (l0.length : Int)) = false := decide_eq_false c4
          clear c4
          obtain rfl := Option.some.inj H
          go_wp2
          repeat (go_quiet (fail); try go_wp2)
          go_ret
          exact ⟨by first | rfl | (simp; done) | (simp [*]; done), by repeat (first | exact Drawn0.refl _ | apply Drawn0.step)⟩
  · rw [if_neg c3] at H
    have c3b0 : ((l0.length : Int) == (l1.length : Int)) = false := beq_eq_false_iff_ne.mpr c3
    have c3b1 : ((l0.length : Int) != (l1.length : Int)) = true := bne_iff_ne.mpr c3
    have c3b2 : (l0.length == l1.length) = false := by first | simpa using c3 | (simp at c3 ⊢; omega)
    obtain rfl := Option.some.inj H
    go_enter Try.func12, Try.ntmps12
    go_wp2
    repeat (go_quiet (fail); try go_wp2)
    go_ret
    exact ⟨by first | rfl | (simp; done) | (simp [*]; done), by repeat (first | exact Drawn0.refl _ | apply Drawn0.step)⟩

end Go.Proofs.Ytlccomoiajnkmaa.PAll
end
section
namespace Go.Proofs.Ytlccomoiajnkmaa.PAll
open Go.RowKit Go.Proofs.YtlccomoiajnkmaaW.PrintWords Go.Proofs.YtlccomoiajnkmaaW.PrintLast Go.Proofs.YtlccomoiajnkmaaW.PrintMore
attribute [local go_sem] max2_int min2_int max_two min_two max_three min_three max_four min_four   -- for this text's walks alone
set_option linter.unusedVariables false
set_option linter.unusedSimpArgs false

def draw_Free.f (k : Nat) (l0 : List (S37)) : Option ((List (S64))) := (draw_move.f k l0 2 1).bind fun t204 => (some t204)
theorem draw_Free.mono : ∀ a0 k, LeO (draw_Free.f k a0) (draw_Free.f (k + 1) a0) := by
  intro a0 k
  unfold draw_Free.f
  repeat' first
      | (with_reducible exact draw_move.mono _ _ _ _)
      | (with_reducible exact LeO.refl _)
      | (with_reducible exact LeO.none _)
      | (with_reducible refine LeO.ite ?_ ?_)
      | (with_reducible refine LeO.bind ?_ (fun _ => ?_))
      | exact draw_move.mono _ _ _ _
      | exact LeO.none _
      | refine LeO.ite ?_ ?_
      | refine LeO.bind ?_ (fun _ => ?_)
set_option maxHeartbeats 8000000 in
set_option maxRecDepth 100000 in
theorem draw_Free.calls (k : Nat) (A0 : Option Addr) (c0 : Nat) (l0 : List (S37)) (r : List (S64)) (w : World) (hr0 : Kd.C k37 w A0 l0.length l0) (hc0 : l0.length ≤ c0) (h : draw_Free.f k l0 = some r) :
    Calls Try.prog 17 #[.slice A0 l0.length c0] w fun e w' => ∃ v0_ : Value, e = .returned (v0_) ∧ Kd.V k64 64 w' w.heap.size (fun k_ => (w.heap.size ≤ k_)) v0_ r ∧ Below w.heap.size w w' := by
  have HR0 := Aside0.mk hr0
  have HC0 := Aside0.mk hc0
  clear hr0 hc0
  have HB := Aside0.mk (Below.refl w.heap.size w)
  have H : ((draw_move.f k l0 2 1).bind fun t204 => (some t204)) = some r := h
  clear h
  replace H := Option.bind_eq_some_iff.mp H
  obtain ⟨t204, A20, H⟩ := H
  replace H : (some t204) = some r := H
  have A2 := Aside0.mk A20
  clear A20
  obtain rfl := Option.some.inj H
  go_enter Try.func17, Try.ntmps17
  go_wp2_with (first | ((with_reducible refine gate_callee (f := 31) rfl ?_); refine goesL_ (some 4) rfl rfl Try.func31 (by kernel_rfl) rfl #[.slice A0 l0.length c0, .int .i64 2, .int .i64 1] rfl (by (try simp only [List.map_toArray, List.map_cons, List.map_nil]); first | done | rfl | (simp only [List.length_drop, List.length_take]; rfl)) ?_; (with_reducible refine (draw_move.calls k _ _ l0 2 1 t204 _ ?side1 ?side2 A2.out).mono ?_); (case side1 => repeat (first | exact HR0.out | (with_reducible refine Kd.C_alloc ?_ _) | (with_reducible refine Kd.C_drewN ?_ _) | (with_reducible refine Kd.C_drew ?_))); (case side2 => exact HC0.out); rintro e w3 ⟨v205, rfl, ho0, hb⟩; refine ⟨_, rfl, ?_⟩; have n0_ := Aside0.mk (Kd.V_lower (Kd.V_mono (ok' := fun k_ => (w.heap.size ≤ k_)) ho0 (fun k_ hk_ => (Nat.le_trans (below_size (by repeat (first | (with_reducible first | exact HB.out | apply below_alloc | apply pw_below_drewN | apply below_drew1) | exact HB.out))) hk_))) (below_size (by repeat (first | (with_reducible first | exact HB.out | apply below_alloc | apply pw_below_drewN | apply below_drew1) | exact HB.out)))); have n1_ := Aside0.mk (below_step (by repeat (first | (with_reducible first | exact HB.out | apply below_alloc | apply pw_below_drewN | apply below_drew1) | exact HB.out)) hb); clear HB; have HO206 := n0_; have HB := n1_; clear n0_ n1_; (try clear hb); (try clear hb2); (try clear hk); (try clear hi); (try clear ho0)))
  go_ret
  exact ⟨_, by first | rfl | (simp [errW_none, errW_some] <;> rfl) | (simp [*, errW_none, errW_some] <;> rfl), by (with_reducible repeat (first | apply Kd.V_alloc | apply Kd.V_drewN | apply Kd.V_drew)); exact HO206.out, by repeat (first | (with_reducible first | exact HB.out | apply below_alloc | apply pw_below_drewN | apply below_drew1) | exact HB.out)⟩

end Go.Proofs.Ytlccomoiajnkmaa.PAll
end
section
namespace Go.Proofs.Ytlccomoiajnkmaa.PAll
open Go.RowKit Go.Proofs.YtlccomoiajnkmaaW.PrintWords Go.Proofs.YtlccomoiajnkmaaW.PrintLast Go.Proofs.YtlccomoiajnkmaaW.PrintMore
attribute [local go_sem] max2_int min2_int max_two min_two max_three min_three max_four min_four   -- for this text's walks alone
set_option linter.unusedVariables false
set_option linter.unusedSimpArgs false

def prebendlaw11_awake.f (k : Nat)  : Option (Bool) := (draw_Draws.f k (([(⟨(⟨#[97]⟩ : ByteArray), (-1), 0⟩ : S62)] : List (S62))) (([(⟨0, 0, 9, 5, 0, 0⟩ : S46), (⟨0, 0, 4, 5, 0, 0⟩ : S46)] : List (S46))) 0 7 0).bind fun bt222 => ((draw_Charge.f k bt222.1 6).bind fun bt226 => (if bt222.2 = 0 then ((prebendref11_Alike.f k bt222.1 (([(⟨1, 5⟩ : S37), (⟨0, 2⟩ : S37)] : List (S37)))).bind fun t233 => (if t233 = true then (if bt226.2 = 0 then ((prebendref11_Alike.f k bt226.1 (([(⟨1, 5⟩ : S37), (⟨0, 1⟩ : S37)] : List (S37)))).bind fun t237 => (if t237 = true then ((draw_Lien.f k bt222.1).bind fun t238 => (if (t238.length : Int) = 4 then ((draw_Spend.f k bt222.1 bt226.1).bind fun t241 => (if (t241.length : Int) = 5 then ((draw_Free.f k bt222.1).bind fun t244 => (if (t244.length : Int) = 4 then ((draw_Back.f k bt226.1).bind fun t247 => (some ((t247.length : Int) == 4))) else (some false))) else (some false))) else (some false))) else (some false))) else (some false)) else (some false))) else (some false)))
theorem prebendlaw11_awake.mono : ∀ k, LeO (prebendlaw11_awake.f k ) (prebendlaw11_awake.f (k + 1) ) := by
  intro  k
  unfold prebendlaw11_awake.f
  repeat' first
      | (with_reducible exact draw_Back.mono _ _)
      | (with_reducible exact draw_Charge.mono _ _ _)
      | (with_reducible exact draw_Draws.mono _ _ _ _ _ _)
      | (with_reducible exact draw_Free.mono _ _)
      | (with_reducible exact draw_Lien.mono _ _)
      | (with_reducible exact draw_Spend.mono _ _ _)
      | (with_reducible exact prebendref11_Alike.mono _ _ _)
      | (with_reducible exact LeO.refl _)
      | (with_reducible exact LeO.none _)
      | (with_reducible refine LeO.ite ?_ ?_)
      | (with_reducible refine LeO.bind ?_ (fun _ => ?_))
      | exact draw_Back.mono _ _
      | exact draw_Charge.mono _ _ _
      | exact draw_Draws.mono _ _ _ _ _ _
      | exact draw_Free.mono _ _
      | exact draw_Lien.mono _ _
      | exact draw_Spend.mono _ _ _
      | exact prebendref11_Alike.mono _ _ _
      | exact LeO.none _
      | refine LeO.ite ?_ ?_
      | refine LeO.bind ?_ (fun _ => ?_)
set_option maxHeartbeats 8000000 in
set_option maxRecDepth 100000 in
theorem prebendlaw11_awake.calls (k : Nat)  (r : Bool) (w : World) (h : prebendlaw11_awake.f k  = some r) :
    Calls Try.prog 11 #[] w fun e w' => e = .returned (.bool r) ∧ Below w.heap.size w w' := by
  have hu62 := Try.underlying62
  have hu46 := Try.underlying46
  have hu37 := Try.underlying37
  have HB := Aside0.mk (Below.refl w.heap.size w)
  have H : ((draw_Draws.f k (([(⟨(⟨#[97]⟩ : ByteArray), (-1), 0⟩ : S62)] : List (S62))) (([(⟨0, 0, 9, 5, 0, 0⟩ : S46), (⟨0, 0, 4, 5, 0, 0⟩ : S46)] : List (S46))) 0 7 0).bind fun bt222 => ((draw_Charge.f k bt222.1 6).bind fun bt226 => (if bt222.2 = 0 then ((prebendref11_Alike.f k bt222.1 (([(⟨1, 5⟩ : S37), (⟨0, 2⟩ : S37)] : List (S37)))).bind fun t233 => (if t233 = true then (if bt226.2 = 0 then ((prebendref11_Alike.f k bt226.1 (([(⟨1, 5⟩ : S37), (⟨0, 1⟩ : S37)] : List (S37)))).bind fun t237 => (if t237 = true then ((draw_Lien.f k bt222.1).bind fun t238 => (if (t238.length : Int) = 4 then ((draw_Spend.f k bt222.1 bt226.1).bind fun t241 => (if (t241.length : Int) = 5 then ((draw_Free.f k bt222.1).bind fun t244 => (if (t244.length : Int) = 4 then ((draw_Back.f k bt226.1).bind fun t247 => (some ((t247.length : Int) == 4))) else (some false))) else (some false))) else (some false))) else (some false))) else (some false)) else (some false))) else (some false)))) = some r := h
  clear h
  obtain ⟨y216, hy216⟩ : ∃ y_ : List (S62), y_ = (([(⟨(⟨#[97]⟩ : ByteArray), (-1), 0⟩ : S62)] : List (S62))) := ⟨_, rfl⟩
  replace H : ((draw_Draws.f k y216 (([(⟨0, 0, 9, 5, 0, 0⟩ : S46), (⟨0, 0, 4, 5, 0, 0⟩ : S46)] : List (S46))) 0 7 0).bind fun bt222 => ((draw_Charge.f k bt222.1 6).bind fun bt226 => (if bt222.2 = 0 then ((prebendref11_Alike.f k bt222.1 (([(⟨1, 5⟩ : S37), (⟨0, 2⟩ : S37)] : List (S37)))).bind fun t233 => (if t233 = true then (if bt226.2 = 0 then ((prebendref11_Alike.f k bt226.1 (([(⟨1, 5⟩ : S37), (⟨0, 1⟩ : S37)] : List (S37)))).bind fun t237 => (if t237 = true then ((draw_Lien.f k bt222.1).bind fun t238 => (if (t238.length : Int) = 4 then ((draw_Spend.f k bt222.1 bt226.1).bind fun t241 => (if (t241.length : Int) = 5 then ((draw_Free.f k bt222.1).bind fun t244 => (if (t244.length : Int) = 4 then ((draw_Back.f k bt226.1).bind fun t247 => (some ((t247.length : Int) == 4))) else (some false))) else (some false))) else (some false))) else (some false))) else (some false)) else (some false))) else (some false)))) = some r := by first | (rw [hy216]; with_reducible exact H) | (have H2_ := (Option.bind_some _ _).symm.trans H; rw [hy216]; with_reducible exact H2_) | (have H2_ := (Option.bind_some _ _).symm.trans H; with_reducible exact H2_) | with_reducible exact H | (rw [hy216]; exact H) | exact H
  have Ny216 := Aside0.mk hy216
  clear hy216
  obtain ⟨y219, hy219⟩ : ∃ y_ : List (S46), y_ = (([(⟨0, 0, 9, 5, 0, 0⟩ : S46), (⟨0, 0, 4, 5, 0, 0⟩ : S46)] : List (S46))) := ⟨_, rfl⟩
  replace H : ((draw_Draws.f k y216 y219 0 7 0).bind fun bt222 => ((draw_Charge.f k bt222.1 6).bind fun bt226 => (if bt222.2 = 0 then ((prebendref11_Alike.f k bt222.1 (([(⟨1, 5⟩ : S37), (⟨0, 2⟩ : S37)] : List (S37)))).bind fun t233 => (if t233 = true then (if bt226.2 = 0 then ((prebendref11_Alike.f k bt226.1 (([(⟨1, 5⟩ : S37), (⟨0, 1⟩ : S37)] : List (S37)))).bind fun t237 => (if t237 = true then ((draw_Lien.f k bt222.1).bind fun t238 => (if (t238.length : Int) = 4 then ((draw_Spend.f k bt222.1 bt226.1).bind fun t241 => (if (t241.length : Int) = 5 then ((draw_Free.f k bt222.1).bind fun t244 => (if (t244.length : Int) = 4 then ((draw_Back.f k bt226.1).bind fun t247 => (some ((t247.length : Int) == 4))) else (some false))) else (some false))) else (some false))) else (some false))) else (some false)) else (some false))) else (some false)))) = some r := by first | (rw [hy219]; with_reducible exact H) | (have H2_ := (Option.bind_some _ _).symm.trans H; rw [hy219]; with_reducible exact H2_) | (have H2_ := (Option.bind_some _ _).symm.trans H; with_reducible exact H2_) | with_reducible exact H | (rw [hy219]; exact H) | exact H
  have Ny219 := Aside0.mk hy219
  clear hy219
  replace H := Option.bind_eq_some_iff.mp H
  obtain ⟨⟨t222, t225⟩, A10, H⟩ := H
  replace H : ((draw_Charge.f k t222 6).bind fun bt226 => (if t225 = 0 then ((prebendref11_Alike.f k t222 (([(⟨1, 5⟩ : S37), (⟨0, 2⟩ : S37)] : List (S37)))).bind fun t233 => (if t233 = true then (if bt226.2 = 0 then ((prebendref11_Alike.f k bt226.1 (([(⟨1, 5⟩ : S37), (⟨0, 1⟩ : S37)] : List (S37)))).bind fun t237 => (if t237 = true then ((draw_Lien.f k t222).bind fun t238 => (if (t238.length : Int) = 4 then ((draw_Spend.f k t222 bt226.1).bind fun t241 => (if (t241.length : Int) = 5 then ((draw_Free.f k t222).bind fun t244 => (if (t244.length : Int) = 4 then ((draw_Back.f k bt226.1).bind fun t247 => (some ((t247.length : Int) == 4))) else (some false))) else (some false))) else (some false))) else (some false))) else (some false)) else (some false))) else (some false))) = some r := H
  have A1 := Aside0.mk A10
  clear A10
  replace H := Option.bind_eq_some_iff.mp H
  obtain ⟨⟨t226, t229⟩, A20, H⟩ := H
  replace H : (if t225 = 0 then ((prebendref11_Alike.f k t222 (([(⟨1, 5⟩ : S37), (⟨0, 2⟩ : S37)] : List (S37)))).bind fun t233 => (if t233 = true then (if t229 = 0 then ((prebendref11_Alike.f k t226 (([(⟨1, 5⟩ : S37), (⟨0, 1⟩ : S37)] : List (S37)))).bind fun t237 => (if t237 = true then ((draw_Lien.f k t222).bind fun t238 => (if (t238.length : Int) = 4 then ((draw_Spend.f k t222 t226).bind fun t241 => (if (t241.length : Int) = 5 then ((draw_Free.f k t222).bind fun t244 => (if (t244.length : Int) = 4 then ((draw_Back.f k t226).bind fun t247 => (some ((t247.length : Int) == 4))) else (some false))) else (some false))) else (some false))) else (some false))) else (some false)) else (some false))) else (some false)) = some r := H
  have A2 := Aside0.mk A20
  clear A20
  by_cases c3 : t225 = 0
  · rw [if_pos c3] at H
    have c3b0 : (t225 == 0) = true := beq_iff_eq.mpr c3
    have c3b1 : (t225 != 0) = false := bne_eq_false_iff_eq.mpr c3
    clear c3
    obtain ⟨y230, hy230⟩ : ∃ y_ : List (S37), y_ = (([(⟨1, 5⟩ : S37), (⟨0, 2⟩ : S37)] : List (S37))) := ⟨_, rfl⟩
    replace H : ((prebendref11_Alike.f k t222 y230).bind fun t233 => (if t233 = true then (if t229 = 0 then ((prebendref11_Alike.f k t226 (([(⟨1, 5⟩ : S37), (⟨0, 1⟩ : S37)] : List (S37)))).bind fun t237 => (if t237 = true then ((draw_Lien.f k t222).bind fun t238 => (if (t238.length : Int) = 4 then ((draw_Spend.f k t222 t226).bind fun t241 => (if (t241.length : Int) = 5 then ((draw_Free.f k t222).bind fun t244 => (if (t244.length : Int) = 4 then ((draw_Back.f k t226).bind fun t247 => (some ((t247.length : Int) == 4))) else (some false))) else (some false))) else (some false))) else (some false))) else (some false)) else (some false))) = some r := by first | (rw [hy230]; with_reducible exact H) | (have H2_ := (Option.bind_some _ _).symm.trans H; rw [hy230]; with_reducible exact H2_) | (have H2_ := (Option.bind_some _ _).symm.trans H; with_reducible exact H2_) | with_reducible exact H | (rw [hy230]; exact H) | exact H
    have Ny230 := Aside0.mk hy230
    clear hy230
    replace H := Option.bind_eq_some_iff.mp H
    obtain ⟨t233, A40, H⟩ := H
    replace H : (if t233 = true then (if t229 = 0 then ((prebendref11_Alike.f k t226 (([(⟨1, 5⟩ : S37), (⟨0, 1⟩ : S37)] : List (S37)))).bind fun t237 => (if t237 = true then ((draw_Lien.f k t222).bind fun t238 => (if (t238.length : Int) = 4 then ((draw_Spend.f k t222 t226).bind fun t241 => (if (t241.length : Int) = 5 then ((draw_Free.f k t222).bind fun t244 => (if (t244.length : Int) = 4 then ((draw_Back.f k t226).bind fun t247 => (some ((t247.length : Int) == 4))) else (some false))) else (some false))) else (some false))) else (some false))) else (some false)) else (some false)) = some r := H
    have A4 := Aside0.mk A40
    clear A40
    by_cases c5 : t233 = true
    · subst c5
      have H1 : (if t229 = 0 then ((prebendref11_Alike.f k t226 (([(⟨1, 5⟩ : S37), (⟨0, 1⟩ : S37)] : List (S37)))).bind fun t237 => (if t237 = true then ((draw_Lien.f k t222).bind fun t238 => (if (t238.length : Int) = 4 then ((draw_Spend.f k t222 t226).bind fun t241 => (if (t241.length : Int) = 5 then ((draw_Free.f k t222).bind fun t244 => (if (t244.length : Int) = 4 then ((draw_Back.f k t226).bind fun t247 => (some ((t247.length : Int) == 4))) else (some false))) else (some false))) else (some false))) else (some false))) else (some false)) = some r := by rw [if_pos rfl] at H; exact H
      clear H
      have H := H1
      clear H1
      by_cases c6 : t229 = 0
      · rw [if_pos c6] at H
        have c6b0 : (t229 == 0) = true := beq_iff_eq.mpr c6
        have c6b1 : (t229 != 0) = false := bne_eq_false_iff_eq.mpr c6
        clear c6
        obtain ⟨y234, hy234⟩ : ∃ y_ : List (S37), y_ = (([(⟨1, 5⟩ : S37), (⟨0, 1⟩ : S37)] : List (S37))) := ⟨_, rfl⟩
        replace H : ((prebendref11_Alike.f k t226 y234).bind fun t237 => (if t237 = true then ((draw_Lien.f k t222).bind fun t238 => (if (t238.length : Int) = 4 then ((draw_Spend.f k t222 t226).bind fun t241 => (if (t241.length : Int) = 5 then ((draw_Free.f k t222).bind fun t244 => (if (t244.length : Int) = 4 then ((draw_Back.f k t226).bind fun t247 => (some ((t247.length : Int) == 4))) else (some false))) else (some false))) else (some false))) else (some false))) = some r := by first | (rw [hy234]; with_reducible exact H) | (have H2_ := (Option.bind_some _ _).symm.trans H; rw [hy234]; with_reducible exact H2_) | (have H2_ := (Option.bind_some _ _).symm.trans H; with_reducible exact H2_) | with_reducible exact H | (rw [hy234]; exact H) | exact H
        have Ny234 := Aside0.mk hy234
        clear hy234
        replace H := Option.bind_eq_some_iff.mp H
        obtain ⟨t237, A70, H⟩ := H
        replace H : (if t237 = true then ((draw_Lien.f k t222).bind fun t238 => (if (t238.length : Int) = 4 then ((draw_Spend.f k t222 t226).bind fun t241 => (if (t241.length : Int) = 5 then ((draw_Free.f k t222).bind fun t244 => (if (t244.length : Int) = 4 then ((draw_Back.f k t226).bind fun t247 => (some ((t247.length : Int) == 4))) else (some false))) else (some false))) else (some false))) else (some false)) = some r := H
        have A7 := Aside0.mk A70
        clear A70
        by_cases c8 : t237 = true
        · subst c8
          have H1 : ((draw_Lien.f k t222).bind fun t238 => (if (t238.length : Int) = 4 then ((draw_Spend.f k t222 t226).bind fun t241 => (if (t241.length : Int) = 5 then ((draw_Free.f k t222).bind fun t244 => (if (t244.length : Int) = 4 then ((draw_Back.f k t226).bind fun t247 => (some ((t247.length : Int) == 4))) else (some false))) else (some false))) else (some false))) = some r := by rw [if_pos rfl] at H; exact H
          clear H
          have H := H1
          clear H1
          replace H := Option.bind_eq_some_iff.mp H
          obtain ⟨t238, A90, H⟩ := H
          replace H : (if (t238.length : Int) = 4 then ((draw_Spend.f k t222 t226).bind fun t241 => (if (t241.length : Int) = 5 then ((draw_Free.f k t222).bind fun t244 => (if (t244.length : Int) = 4 then ((draw_Back.f k t226).bind fun t247 => (some ((t247.length : Int) == 4))) else (some false))) else (some false))) else (some false)) = some r := H
          have A9 := Aside0.mk A90
          clear A90
          by_cases c10 : (t238.length : Int) = 4
          · rw [if_pos c10] at H
            have c10b0 : ((t238.length : Int) == 4) = true := beq_iff_eq.mpr c10
            have c10b1 : ((t238.length : Int) != 4) = false := bne_eq_false_iff_eq.mpr c10
            clear c10
            replace H := Option.bind_eq_some_iff.mp H
            obtain ⟨t241, A110, H⟩ := H
            replace H : (if (t241.length : Int) = 5 then ((draw_Free.f k t222).bind fun t244 => (if (t244.length : Int) = 4 then ((draw_Back.f k t226).bind fun t247 => (some ((t247.length : Int) == 4))) else (some false))) else (some false)) = some r := H
            have A11 := Aside0.mk A110
            clear A110
            by_cases c12 : (t241.length : Int) = 5
            · rw [if_pos c12] at H
              have c12b0 : ((t241.length : Int) == 5) = true := beq_iff_eq.mpr c12
              have c12b1 : ((t241.length : Int) != 5) = false := bne_eq_false_iff_eq.mpr c12
              clear c12
              replace H := Option.bind_eq_some_iff.mp H
              obtain ⟨t244, A130, H⟩ := H
              replace H : (if (t244.length : Int) = 4 then ((draw_Back.f k t226).bind fun t247 => (some ((t247.length : Int) == 4))) else (some false)) = some r := H
              have A13 := Aside0.mk A130
              clear A130
              by_cases c14 : (t244.length : Int) = 4
              · rw [if_pos c14] at H
                have c14b0 : ((t244.length : Int) == 4) = true := beq_iff_eq.mpr c14
                have c14b1 : ((t244.length : Int) != 4) = false := bne_eq_false_iff_eq.mpr c14
                clear c14
                replace H := Option.bind_eq_some_iff.mp H
                obtain ⟨t247, A150, H⟩ := H
                replace H : (some ((t247.length : Int) == 4)) = some r := H
                have A15 := Aside0.mk A150
                clear A150
                obtain rfl := Option.some.inj H
                go_enter Try.func11, Try.ntmps11
                go_wp2_with (first | ((with_reducible refine gate_dst (N := 8) rfl ?_); (try (refine gate_guard (by rfl) ?_; dsimp only)); refine Kd.R_lit k62 _ 62 ?hg (N := 8) ?hd (xs := ([(⟨(⟨#[97]⟩ : ByteArray), (-1), 0⟩ : S62)] : List (S62))) (inner := [.string (⟨#[97]⟩ : ByteArray), .int .i64 (-1), .int .i64 0]) (ok := fun _ => True) (okp := fun _ => True) ?hr ?hp (fun _ hk => hk) trivial (Below.refl _ _) (Nat.le_refl _) (by simp) ?_; (case hd => rfl); (case hg => rfl); (case hr => first | (go_simp; done) | (go_simp; rfl)); (case hp => exact (Reps.c3 (show Kd.M k62 _ _ _ (⟨(⟨#[97]⟩ : ByteArray), (-1), 0⟩ : S62) [.string (⟨#[97]⟩ : ByteArray), .int .i64 (-1), .int .i64 0] from (k62_mkM _ _ _ (⟨(⟨#[97]⟩ : ByteArray), (-1), 0⟩ : S62) )) (Reps.none _ _))); intro v217 w16 ho17 hb hg_ hnew_; clear hg_ hnew_; (first | rw [← Ny216.out] at ho17 | (simp only [Int.reduceToNat] at ho17; rw [← Ny216.out] at ho17)); have n0_ := Aside0.mk (Kd.R_lower ho17 (below_size (by repeat (first | (with_reducible first | exact HB.out | apply below_alloc | apply pw_below_drewN | apply below_drew1) | exact HB.out)))); have n1_ := Aside0.mk (below_step (by repeat (first | (with_reducible first | exact HB.out | apply below_alloc | apply pw_below_drewN | apply below_drew1) | exact HB.out)) hb); clear HB; have HO218 := n0_; have HB := n1_; clear n0_ n1_; clear hb ho17) | ((with_reducible refine gate_dst (N := 11) rfl ?_); (try (refine gate_guard (by rfl) ?_; dsimp only)); refine Kd.R_lit k46 _ 46 ?hg (N := 11) ?hd (xs := ([(⟨0, 0, 9, 5, 0, 0⟩ : S46), (⟨0, 0, 4, 5, 0, 0⟩ : S46)] : List (S46))) (inner := [.int .i64 0, .int .i64 0, .int .i64 9, .int .i64 5, .int .i64 0, .int .i64 0, .int .i64 0, .int .i64 0, .int .i64 4, .int .i64 5, .int .i64 0, .int .i64 0]) (ok := fun _ => True) (okp := fun _ => True) ?hr ?hp (fun _ hk => hk) trivial (Below.refl _ _) (Nat.le_refl _) (by simp) ?_; (case hd => rfl); (case hg => rfl); (case hr => first | (go_simp; done) | (go_simp; rfl)); (case hp => exact (Reps.c6 (show Kd.M k46 _ _ _ (⟨0, 0, 9, 5, 0, 0⟩ : S46) [.int .i64 0, .int .i64 0, .int .i64 9, .int .i64 5, .int .i64 0, .int .i64 0] from (k46_mkM _ _ _ (⟨0, 0, 9, 5, 0, 0⟩ : S46) )) (Reps.c6 (show Kd.M k46 _ _ _ (⟨0, 0, 4, 5, 0, 0⟩ : S46) [.int .i64 0, .int .i64 0, .int .i64 4, .int .i64 5, .int .i64 0, .int .i64 0] from (k46_mkM _ _ _ (⟨0, 0, 4, 5, 0, 0⟩ : S46) )) (Reps.none _ _)))); intro v220 w18 ho19 hb hg_ hnew_; clear hg_ hnew_; (first | rw [← Ny219.out] at ho19 | (simp only [Int.reduceToNat] at ho19; rw [← Ny219.out] at ho19)); have n0_ := Aside0.mk (Kd.R_below (by (with_reducible repeat (first | apply Kd.R_alloc | apply Kd.R_drewN | apply Kd.R_drew)); exact HO218.out) hb); have n1_ := Aside0.mk (Kd.R_lower ho19 (below_size (by repeat (first | (with_reducible first | exact HB.out | apply below_alloc | apply pw_below_drewN | apply below_drew1) | exact HB.out)))); have n2_ := Aside0.mk (below_step (by repeat (first | (with_reducible first | exact HB.out | apply below_alloc | apply pw_below_drewN | apply below_drew1) | exact HB.out)) hb); clear HO218; clear HB; have HO218 := n0_; have HO221 := n1_; have HB := n2_; clear n0_ n1_ n2_; clear hb ho19; obtain ⟨Ao20, co20, eo20⟩ := Kd.R_slice HO218.out; subst eo20; obtain ⟨Ao21, co21, eo21⟩ := Kd.R_slice HO221.out; subst eo21) | ((with_reducible refine gate_callee (f := 9) rfl ?_); refine goesL_ (some 15) rfl rfl Try.func9 (by kernel_rfl) rfl #[.slice Ao20 y216.length co20, .slice Ao21 y219.length co21, .int .i64 0, .int .i64 7, .int .i64 0] rfl (by (try simp only [List.map_toArray, List.map_cons, List.map_nil]); first | done | rfl | (simp only [List.length_drop, List.length_take]; rfl)) ?_; (with_reducible refine (draw_Draws.calls k _ _ y216 _ _ y219 0 7 0 t222 t225 _ ?side1 ?side2 ?side3 ?side4 A1.out).mono ?_); (case side1 => repeat (first | exact (Kd.R_reads' HO218.out).2.2 | (with_reducible refine Kd.C_alloc ?_ _) | (with_reducible refine Kd.C_drewN ?_ _) | (with_reducible refine Kd.C_drew ?_))); (case side2 => exact (Kd.R_reads' HO218.out).2.1); (case side3 => repeat (first | exact (Kd.R_reads' HO221.out).2.2 | (with_reducible refine Kd.C_alloc ?_ _) | (with_reducible refine Kd.C_drewN ?_ _) | (with_reducible refine Kd.C_drew ?_))); (case side4 => exact (Kd.R_reads' HO221.out).2.1); rintro e w22 ⟨v223, rfl, ho0, hb⟩; refine ⟨_, rfl, ?_⟩; have n0_ := Aside0.mk (Kd.R_below (by (with_reducible repeat (first | apply Kd.R_alloc | apply Kd.R_drewN | apply Kd.R_drew)); exact HO218.out) hb); have n1_ := Aside0.mk (Kd.R_below (by (with_reducible repeat (first | apply Kd.R_alloc | apply Kd.R_drewN | apply Kd.R_drew)); exact HO221.out) hb); have n2_ := Aside0.mk (Kd.V_lower (Kd.V_mono (ok' := fun k_ => some k_ ≠ (.slice Ao20 y216.length co20 : Value).ownBlock ∧ some k_ ≠ (.slice Ao21 y219.length co21 : Value).ownBlock) ho0 (fun k_ hk_ => ⟨(Kd.fresh' (Kd.R_lt (by (with_reducible repeat (first | apply Kd.R_alloc | apply Kd.R_drewN | apply Kd.R_drew)); exact HO218.out)) k_ hk_), (Kd.fresh' (Kd.R_lt (by (with_reducible repeat (first | apply Kd.R_alloc | apply Kd.R_drewN | apply Kd.R_drew)); exact HO221.out)) k_ hk_)⟩)) (below_size (by repeat (first | (with_reducible first | exact HB.out | apply below_alloc | apply pw_below_drewN | apply below_drew1) | exact HB.out)))); have n3_ := Aside0.mk (below_step (by repeat (first | (with_reducible first | exact HB.out | apply below_alloc | apply pw_below_drewN | apply below_drew1) | exact HB.out)) hb); clear HO218; clear HO221; clear HB; have HO218 := n0_; have HO221 := n1_; have HO224 := n2_; have HB := n3_; clear n0_ n1_ n2_ n3_; (try clear hb); (try clear hb2); (try clear hk); (try clear hi); (try clear ho0); obtain ⟨Ao23, co23, eo23⟩ := Kd.V_slice HO224.out; subst eo23) | ((with_reducible refine gate_callee (f := 21) rfl ?_); refine goesL_ (some 20) rfl rfl Try.func21 (by kernel_rfl) rfl #[.slice Ao23 t222.length co23, .int .i64 6] rfl (by (try simp only [List.map_toArray, List.map_cons, List.map_nil]); first | done | rfl | (simp only [List.length_drop, List.length_take]; rfl)) ?_; (with_reducible refine (draw_Charge.calls k _ _ t222 6 t226 t229 _ ?side1 ?side2 A2.out).mono ?_); (case side1 => repeat (first | exact (Kd.V_reads' HO224.out).2.2 | (with_reducible refine Kd.C_alloc ?_ _) | (with_reducible refine Kd.C_drewN ?_ _) | (with_reducible refine Kd.C_drew ?_))); (case side2 => exact (Kd.V_reads' HO224.out).2.1); rintro e w24 ⟨v227, rfl, ho0, hb⟩; refine ⟨_, rfl, ?_⟩; have n0_ := Aside0.mk (Kd.R_below (by (with_reducible repeat (first | apply Kd.R_alloc | apply Kd.R_drewN | apply Kd.R_drew)); exact HO218.out) hb); have n1_ := Aside0.mk (Kd.R_below (by (with_reducible repeat (first | apply Kd.R_alloc | apply Kd.R_drewN | apply Kd.R_drew)); exact HO221.out) hb); have n2_ := Aside0.mk (Kd.V_below (by (with_reducible repeat (first | apply Kd.V_alloc | apply Kd.V_drewN | apply Kd.V_drew)); exact HO224.out) hb); have n3_ := Aside0.mk (Kd.V_lower (Kd.V_mono (ok' := fun k_ => some k_ ≠ (.slice Ao20 y216.length co20 : Value).ownBlock ∧ some k_ ≠ (.slice Ao21 y219.length co21 : Value).ownBlock) ho0 (fun k_ hk_ => ⟨(Kd.fresh' (Kd.R_lt (by (with_reducible repeat (first | apply Kd.R_alloc | apply Kd.R_drewN | apply Kd.R_drew)); exact HO218.out)) k_ hk_), (Kd.fresh' (Kd.R_lt (by (with_reducible repeat (first | apply Kd.R_alloc | apply Kd.R_drewN | apply Kd.R_drew)); exact HO221.out)) k_ hk_)⟩)) (below_size (by repeat (first | (with_reducible first | exact HB.out | apply below_alloc | apply pw_below_drewN | apply below_drew1) | exact HB.out)))); have n4_ := Aside0.mk (below_step (by repeat (first | (with_reducible first | exact HB.out | apply below_alloc | apply pw_below_drewN | apply below_drew1) | exact HB.out)) hb); clear HO218; clear HO221; clear HO224; clear HB; have HO218 := n0_; have HO221 := n1_; have HO224 := n2_; have HO228 := n3_; have HB := n4_; clear n0_ n1_ n2_ n3_ n4_; (try clear hb); (try clear hb2); (try clear hk); (try clear hi); (try clear ho0)) | ((with_reducible refine gate_dst (N := 29) rfl ?_); (try (refine gate_guard (by rfl) ?_; dsimp only)); refine Kd.R_lit k37 _ 37 ?hg (N := 29) ?hd (xs := ([(⟨1, 5⟩ : S37), (⟨0, 2⟩ : S37)] : List (S37))) (inner := [.int .i64 1, .int .i64 5, .int .i64 0, .int .i64 2]) (ok := fun _ => True) (okp := fun _ => True) ?hr ?hp (fun _ hk => hk) trivial (Below.refl _ _) (Nat.le_refl _) (by simp) ?_; (case hd => rfl); (case hg => rfl); (case hr => first | (go_simp; done) | (go_simp; rfl)); (case hp => exact (Reps.c2 (show Kd.M k37 _ _ _ (⟨1, 5⟩ : S37) [.int .i64 1, .int .i64 5] from (k37_mkM _ _ _ (⟨1, 5⟩ : S37) )) (Reps.c2 (show Kd.M k37 _ _ _ (⟨0, 2⟩ : S37) [.int .i64 0, .int .i64 2] from (k37_mkM _ _ _ (⟨0, 2⟩ : S37) )) (Reps.none _ _)))); intro v231 w25 ho26 hb hg_ hnew_; clear hg_ hnew_; (first | rw [← Ny230.out] at ho26 | (simp only [Int.reduceToNat] at ho26; rw [← Ny230.out] at ho26)); have n0_ := Aside0.mk (Kd.R_below (by (with_reducible repeat (first | apply Kd.R_alloc | apply Kd.R_drewN | apply Kd.R_drew)); exact HO218.out) hb); have n1_ := Aside0.mk (Kd.R_below (by (with_reducible repeat (first | apply Kd.R_alloc | apply Kd.R_drewN | apply Kd.R_drew)); exact HO221.out) hb); have n2_ := Aside0.mk (Kd.V_elder' (by (with_reducible repeat (first | apply Kd.V_alloc | apply Kd.V_drewN | apply Kd.V_drew)); exact HO224.out) (Kd.R_base ho26) hb); have n3_ := Aside0.mk (Kd.V_elder' (by (with_reducible repeat (first | apply Kd.V_alloc | apply Kd.V_drewN | apply Kd.V_drew)); exact HO228.out) (Kd.R_base ho26) hb); have n4_ := Aside0.mk (Kd.R_lower ho26 (below_size (by repeat (first | (with_reducible first | exact HB.out | apply below_alloc | apply pw_below_drewN | apply below_drew1) | exact HB.out)))); have n5_ := Aside0.mk (below_step (by repeat (first | (with_reducible first | exact HB.out | apply below_alloc | apply pw_below_drewN | apply below_drew1) | exact HB.out)) hb); clear HO218; clear HO221; clear HO224; clear HO228; clear HB; have HO218 := n0_; have HO221 := n1_; have HO224 := n2_; have HO228 := n3_; have HO232 := n4_; have HB := n5_; clear n0_ n1_ n2_ n3_ n4_ n5_; clear hb ho26; obtain ⟨Ao27, co27, eo27⟩ := Kd.R_slice HO232.out; subst eo27) | (go_at_call 12; (with_reducible refine (prebendref11_Alike.calls k _ _ t222 _ _ y230 true _ ?side1 ?side2 ?side3 ?side4 A4.out).mono ?_); (case side1 => repeat (first | exact (Kd.V_reads' HO224.out).2.2 | (with_reducible refine Kd.C_alloc ?_ _) | (with_reducible refine Kd.C_drewN ?_ _) | (with_reducible refine Kd.C_drew ?_))); (case side2 => exact (Kd.V_reads' HO224.out).2.1); (case side3 => repeat (first | exact (Kd.R_reads' HO232.out).2.2 | (with_reducible refine Kd.C_alloc ?_ _) | (with_reducible refine Kd.C_drewN ?_ _) | (with_reducible refine Kd.C_drew ?_))); (case side4 => exact (Kd.R_reads' HO232.out).2.1); rintro e w' ⟨rfl, ⟨nd, rfl⟩⟩) | ((with_reducible refine gate_dst (N := 40) rfl ?_); (try (refine gate_guard (by rfl) ?_; dsimp only)); refine Kd.R_lit k37 _ 37 ?hg (N := 40) ?hd (xs := ([(⟨1, 5⟩ : S37), (⟨0, 1⟩ : S37)] : List (S37))) (inner := [.int .i64 1, .int .i64 5, .int .i64 0, .int .i64 1]) (ok := fun _ => True) (okp := fun _ => True) ?hr ?hp (fun _ hk => hk) trivial (Below.refl _ _) (Nat.le_refl _) (by simp) ?_; (case hd => rfl); (case hg => rfl); (case hr => first | (go_simp; done) | (go_simp; rfl)); (case hp => exact (Reps.c2 (show Kd.M k37 _ _ _ (⟨1, 5⟩ : S37) [.int .i64 1, .int .i64 5] from (k37_mkM _ _ _ (⟨1, 5⟩ : S37) )) (Reps.c2 (show Kd.M k37 _ _ _ (⟨0, 1⟩ : S37) [.int .i64 0, .int .i64 1] from (k37_mkM _ _ _ (⟨0, 1⟩ : S37) )) (Reps.none _ _)))); intro v235 w28 ho29 hb hg_ hnew_; clear hg_ hnew_; (first | rw [← Ny234.out] at ho29 | (simp only [Int.reduceToNat] at ho29; rw [← Ny234.out] at ho29)); have n0_ := Aside0.mk (Kd.R_below (by (with_reducible repeat (first | apply Kd.R_alloc | apply Kd.R_drewN | apply Kd.R_drew)); exact HO218.out) hb); have n1_ := Aside0.mk (Kd.R_below (by (with_reducible repeat (first | apply Kd.R_alloc | apply Kd.R_drewN | apply Kd.R_drew)); exact HO221.out) hb); have n2_ := Aside0.mk (Kd.V_elder' (by (with_reducible repeat (first | apply Kd.V_alloc | apply Kd.V_drewN | apply Kd.V_drew)); exact HO224.out) (Kd.R_base ho29) hb); have n3_ := Aside0.mk (Kd.V_elder' (by (with_reducible repeat (first | apply Kd.V_alloc | apply Kd.V_drewN | apply Kd.V_drew)); exact HO228.out) (Kd.R_base ho29) hb); have n4_ := Aside0.mk (Kd.R_elder' (by (with_reducible repeat (first | apply Kd.R_alloc | apply Kd.R_drewN | apply Kd.R_drew)); exact HO232.out) (Kd.R_base ho29) hb); have n5_ := Aside0.mk (Kd.R_lower (Kd.R_new' ho29 (Kd.R_lt (by (with_reducible repeat (first | apply Kd.R_alloc | apply Kd.R_drewN | apply Kd.R_drew)); exact HO232.out))) (below_size (by repeat (first | (with_reducible first | exact HB.out | apply below_alloc | apply pw_below_drewN | apply below_drew1) | exact HB.out)))); have n6_ := Aside0.mk (below_step (by repeat (first | (with_reducible first | exact HB.out | apply below_alloc | apply pw_below_drewN | apply below_drew1) | exact HB.out)) hb); clear HO218; clear HO221; clear HO224; clear HO228; clear HO232; clear HB; have HO218 := n0_; have HO221 := n1_; have HO224 := n2_; have HO228 := n3_; have HO232 := n4_; have HO236 := n5_; have HB := n6_; clear n0_ n1_ n2_ n3_ n4_ n5_ n6_; clear hb ho29; obtain ⟨Ao30, co30, eo30⟩ := Kd.V_slice HO228.out; subst eo30; obtain ⟨Ao31, co31, eo31⟩ := Kd.R_slice HO236.out; subst eo31) | (go_at_call 12; (with_reducible refine (prebendref11_Alike.calls k _ _ t226 _ _ y234 true _ ?side1 ?side2 ?side3 ?side4 A7.out).mono ?_); (case side1 => repeat (first | exact (Kd.V_reads' HO228.out).2.2 | (with_reducible refine Kd.C_alloc ?_ _) | (with_reducible refine Kd.C_drewN ?_ _) | (with_reducible refine Kd.C_drew ?_))); (case side2 => exact (Kd.V_reads' HO228.out).2.1); (case side3 => repeat (first | exact (Kd.R_reads' HO236.out).2.2 | (with_reducible refine Kd.C_alloc ?_ _) | (with_reducible refine Kd.C_drewN ?_ _) | (with_reducible refine Kd.C_drew ?_))); (case side4 => exact (Kd.R_reads' HO236.out).2.1); rintro e w' ⟨rfl, ⟨nd, rfl⟩⟩) | (go_at_call 15; (with_reducible refine (draw_Lien.calls k _ _ t222 t238 _ ?side1 ?side2 A9.out).mono ?_); (case side1 => repeat (first | exact (Kd.V_reads' HO224.out).2.2 | (with_reducible refine Kd.C_alloc ?_ _) | (with_reducible refine Kd.C_drewN ?_ _) | (with_reducible refine Kd.C_drew ?_))); (case side2 => exact (Kd.V_reads' HO224.out).2.1); rintro e w32 ⟨v239, rfl, ho0, hb⟩; have n0_ := Aside0.mk (Kd.R_below (by (with_reducible repeat (first | apply Kd.R_alloc | apply Kd.R_drewN | apply Kd.R_drew)); exact HO218.out) hb); have n1_ := Aside0.mk (Kd.R_below (by (with_reducible repeat (first | apply Kd.R_alloc | apply Kd.R_drewN | apply Kd.R_drew)); exact HO221.out) hb); have n2_ := Aside0.mk (Kd.V_below (by (with_reducible repeat (first | apply Kd.V_alloc | apply Kd.V_drewN | apply Kd.V_drew)); exact HO224.out) hb); have n3_ := Aside0.mk (Kd.V_below (by (with_reducible repeat (first | apply Kd.V_alloc | apply Kd.V_drewN | apply Kd.V_drew)); exact HO228.out) hb); have n4_ := Aside0.mk (Kd.R_below (by (with_reducible repeat (first | apply Kd.R_alloc | apply Kd.R_drewN | apply Kd.R_drew)); exact HO232.out) hb); have n5_ := Aside0.mk (Kd.R_below (by (with_reducible repeat (first | apply Kd.R_alloc | apply Kd.R_drewN | apply Kd.R_drew)); exact HO236.out) hb); have n6_ := Aside0.mk (Kd.V_lower (Kd.V_mono (ok' := fun k_ => some k_ ≠ (.slice Ao20 y216.length co20 : Value).ownBlock ∧ some k_ ≠ (.slice Ao21 y219.length co21 : Value).ownBlock ∧ some k_ ≠ (.slice Ao27 y230.length co27 : Value).ownBlock ∧ some k_ ≠ (.slice Ao31 y234.length co31 : Value).ownBlock) ho0 (fun k_ hk_ => ⟨(Kd.fresh' (Kd.R_lt (by (with_reducible repeat (first | apply Kd.R_alloc | apply Kd.R_drewN | apply Kd.R_drew)); exact HO218.out)) k_ hk_), (Kd.fresh' (Kd.R_lt (by (with_reducible repeat (first | apply Kd.R_alloc | apply Kd.R_drewN | apply Kd.R_drew)); exact HO221.out)) k_ hk_), (Kd.fresh' (Kd.R_lt (by (with_reducible repeat (first | apply Kd.R_alloc | apply Kd.R_drewN | apply Kd.R_drew)); exact HO232.out)) k_ hk_), (Kd.fresh' (Kd.R_lt (by (with_reducible repeat (first | apply Kd.R_alloc | apply Kd.R_drewN | apply Kd.R_drew)); exact HO236.out)) k_ hk_)⟩)) (below_size (by repeat (first | (with_reducible first | exact HB.out | apply below_alloc | apply pw_below_drewN | apply below_drew1) | exact HB.out)))); have n7_ := Aside0.mk (below_step (by repeat (first | (with_reducible first | exact HB.out | apply below_alloc | apply pw_below_drewN | apply below_drew1) | exact HB.out)) hb); clear HO218; clear HO221; clear HO224; clear HO228; clear HO232; clear HO236; clear HB; have HO218 := n0_; have HO221 := n1_; have HO224 := n2_; have HO228 := n3_; have HO232 := n4_; have HO236 := n5_; have HO240 := n6_; have HB := n7_; clear n0_ n1_ n2_ n3_ n4_ n5_ n6_ n7_; (try clear hb); (try clear hb2); (try clear hk); (try clear hi); (try clear ho0); obtain ⟨Ao33, co33, eo33⟩ := Kd.V_slice HO240.out; subst eo33) | (go_at_call 19; (with_reducible refine (draw_Spend.calls k _ _ t222 _ _ t226 t241 _ ?side1 ?side2 ?side3 ?side4 A11.out).mono ?_); (case side1 => repeat (first | exact (Kd.V_reads' HO224.out).2.2 | (with_reducible refine Kd.C_alloc ?_ _) | (with_reducible refine Kd.C_drewN ?_ _) | (with_reducible refine Kd.C_drew ?_))); (case side2 => exact (Kd.V_reads' HO224.out).2.1); (case side3 => repeat (first | exact (Kd.V_reads' HO228.out).2.2 | (with_reducible refine Kd.C_alloc ?_ _) | (with_reducible refine Kd.C_drewN ?_ _) | (with_reducible refine Kd.C_drew ?_))); (case side4 => exact (Kd.V_reads' HO228.out).2.1); rintro e w34 ⟨v242, rfl, ho0, hb⟩; have n0_ := Aside0.mk (Kd.R_below (by (with_reducible repeat (first | apply Kd.R_alloc | apply Kd.R_drewN | apply Kd.R_drew)); exact HO218.out) hb); have n1_ := Aside0.mk (Kd.R_below (by (with_reducible repeat (first | apply Kd.R_alloc | apply Kd.R_drewN | apply Kd.R_drew)); exact HO221.out) hb); have n2_ := Aside0.mk (Kd.V_below (by (with_reducible repeat (first | apply Kd.V_alloc | apply Kd.V_drewN | apply Kd.V_drew)); exact HO224.out) hb); have n3_ := Aside0.mk (Kd.V_below (by (with_reducible repeat (first | apply Kd.V_alloc | apply Kd.V_drewN | apply Kd.V_drew)); exact HO228.out) hb); have n4_ := Aside0.mk (Kd.R_below (by (with_reducible repeat (first | apply Kd.R_alloc | apply Kd.R_drewN | apply Kd.R_drew)); exact HO232.out) hb); have n5_ := Aside0.mk (Kd.R_below (by (with_reducible repeat (first | apply Kd.R_alloc | apply Kd.R_drewN | apply Kd.R_drew)); exact HO236.out) hb); have n6_ := Aside0.mk (Kd.V_below (by (with_reducible repeat (first | apply Kd.V_alloc | apply Kd.V_drewN | apply Kd.V_drew)); exact HO240.out) hb); have n7_ := Aside0.mk (Kd.V_lower (Kd.V_mono (ok' := fun k_ => some k_ ≠ (.slice Ao20 y216.length co20 : Value).ownBlock ∧ some k_ ≠ (.slice Ao21 y219.length co21 : Value).ownBlock ∧ some k_ ≠ (.slice Ao27 y230.length co27 : Value).ownBlock ∧ some k_ ≠ (.slice Ao31 y234.length co31 : Value).ownBlock) ho0 (fun k_ hk_ => ⟨(Kd.fresh' (Kd.R_lt (by (with_reducible repeat (first | apply Kd.R_alloc | apply Kd.R_drewN | apply Kd.R_drew)); exact HO218.out)) k_ hk_), (Kd.fresh' (Kd.R_lt (by (with_reducible repeat (first | apply Kd.R_alloc | apply Kd.R_drewN | apply Kd.R_drew)); exact HO221.out)) k_ hk_), (Kd.fresh' (Kd.R_lt (by (with_reducible repeat (first | apply Kd.R_alloc | apply Kd.R_drewN | apply Kd.R_drew)); exact HO232.out)) k_ hk_), (Kd.fresh' (Kd.R_lt (by (with_reducible repeat (first | apply Kd.R_alloc | apply Kd.R_drewN | apply Kd.R_drew)); exact HO236.out)) k_ hk_)⟩)) (below_size (by repeat (first | (with_reducible first | exact HB.out | apply below_alloc | apply pw_below_drewN | apply below_drew1) | exact HB.out)))); have n8_ := Aside0.mk (below_step (by repeat (first | (with_reducible first | exact HB.out | apply below_alloc | apply pw_below_drewN | apply below_drew1) | exact HB.out)) hb); clear HO218; clear HO221; clear HO224; clear HO228; clear HO232; clear HO236; clear HO240; clear HB; have HO218 := n0_; have HO221 := n1_; have HO224 := n2_; have HO228 := n3_; have HO232 := n4_; have HO236 := n5_; have HO240 := n6_; have HO243 := n7_; have HB := n8_; clear n0_ n1_ n2_ n3_ n4_ n5_ n6_ n7_ n8_; (try clear hb); (try clear hb2); (try clear hk); (try clear hi); (try clear ho0); obtain ⟨Ao35, co35, eo35⟩ := Kd.V_slice HO243.out; subst eo35) | (go_at_call 17; (with_reducible refine (draw_Free.calls k _ _ t222 t244 _ ?side1 ?side2 A13.out).mono ?_); (case side1 => repeat (first | exact (Kd.V_reads' HO224.out).2.2 | (with_reducible refine Kd.C_alloc ?_ _) | (with_reducible refine Kd.C_drewN ?_ _) | (with_reducible refine Kd.C_drew ?_))); (case side2 => exact (Kd.V_reads' HO224.out).2.1); rintro e w36 ⟨v245, rfl, ho0, hb⟩; have n0_ := Aside0.mk (Kd.R_below (by (with_reducible repeat (first | apply Kd.R_alloc | apply Kd.R_drewN | apply Kd.R_drew)); exact HO218.out) hb); have n1_ := Aside0.mk (Kd.R_below (by (with_reducible repeat (first | apply Kd.R_alloc | apply Kd.R_drewN | apply Kd.R_drew)); exact HO221.out) hb); have n2_ := Aside0.mk (Kd.V_below (by (with_reducible repeat (first | apply Kd.V_alloc | apply Kd.V_drewN | apply Kd.V_drew)); exact HO224.out) hb); have n3_ := Aside0.mk (Kd.V_below (by (with_reducible repeat (first | apply Kd.V_alloc | apply Kd.V_drewN | apply Kd.V_drew)); exact HO228.out) hb); have n4_ := Aside0.mk (Kd.R_below (by (with_reducible repeat (first | apply Kd.R_alloc | apply Kd.R_drewN | apply Kd.R_drew)); exact HO232.out) hb); have n5_ := Aside0.mk (Kd.R_below (by (with_reducible repeat (first | apply Kd.R_alloc | apply Kd.R_drewN | apply Kd.R_drew)); exact HO236.out) hb); have n6_ := Aside0.mk (Kd.V_below (by (with_reducible repeat (first | apply Kd.V_alloc | apply Kd.V_drewN | apply Kd.V_drew)); exact HO240.out) hb); have n7_ := Aside0.mk (Kd.V_below (by (with_reducible repeat (first | apply Kd.V_alloc | apply Kd.V_drewN | apply Kd.V_drew)); exact HO243.out) hb); have n8_ := Aside0.mk (Kd.V_lower (Kd.V_mono (ok' := fun k_ => some k_ ≠ (.slice Ao20 y216.length co20 : Value).ownBlock ∧ some k_ ≠ (.slice Ao21 y219.length co21 : Value).ownBlock ∧ some k_ ≠ (.slice Ao27 y230.length co27 : Value).ownBlock ∧ some k_ ≠ (.slice Ao31 y234.length co31 : Value).ownBlock) ho0 (fun k_ hk_ => ⟨(Kd.fresh' (Kd.R_lt (by (with_reducible repeat (first | apply Kd.R_alloc | apply Kd.R_drewN | apply Kd.R_drew)); exact HO218.out)) k_ hk_), (Kd.fresh' (Kd.R_lt (by (with_reducible repeat (first | apply Kd.R_alloc | apply Kd.R_drewN | apply Kd.R_drew)); exact HO221.out)) k_ hk_), (Kd.fresh' (Kd.R_lt (by (with_reducible repeat (first | apply Kd.R_alloc | apply Kd.R_drewN | apply Kd.R_drew)); exact HO232.out)) k_ hk_), (Kd.fresh' (Kd.R_lt (by (with_reducible repeat (first | apply Kd.R_alloc | apply Kd.R_drewN | apply Kd.R_drew)); exact HO236.out)) k_ hk_)⟩)) (below_size (by repeat (first | (with_reducible first | exact HB.out | apply below_alloc | apply pw_below_drewN | apply below_drew1) | exact HB.out)))); have n9_ := Aside0.mk (below_step (by repeat (first | (with_reducible first | exact HB.out | apply below_alloc | apply pw_below_drewN | apply below_drew1) | exact HB.out)) hb); clear HO218; clear HO221; clear HO224; clear HO228; clear HO232; clear HO236; clear HO240; clear HO243; clear HB; have HO218 := n0_; have HO221 := n1_; have HO224 := n2_; have HO228 := n3_; have HO232 := n4_; have HO236 := n5_; have HO240 := n6_; have HO243 := n7_; have HO246 := n8_; have HB := n9_; clear n0_ n1_ n2_ n3_ n4_ n5_ n6_ n7_ n8_ n9_; (try clear hb); (try clear hb2); (try clear hk); (try clear hi); (try clear ho0); obtain ⟨Ao37, co37, eo37⟩ := Kd.V_slice HO246.out; subst eo37) | (go_at_call 18; (with_reducible refine (draw_Back.calls k _ _ t226 t247 _ ?side1 ?side2 A15.out).mono ?_); (case side1 => repeat (first | exact (Kd.V_reads' HO228.out).2.2 | (with_reducible refine Kd.C_alloc ?_ _) | (with_reducible refine Kd.C_drewN ?_ _) | (with_reducible refine Kd.C_drew ?_))); (case side2 => exact (Kd.V_reads' HO228.out).2.1); rintro e w38 ⟨v248, rfl, ho0, hb⟩; have n0_ := Aside0.mk (Kd.R_below (by (with_reducible repeat (first | apply Kd.R_alloc | apply Kd.R_drewN | apply Kd.R_drew)); exact HO218.out) hb); have n1_ := Aside0.mk (Kd.R_below (by (with_reducible repeat (first | apply Kd.R_alloc | apply Kd.R_drewN | apply Kd.R_drew)); exact HO221.out) hb); have n2_ := Aside0.mk (Kd.V_below (by (with_reducible repeat (first | apply Kd.V_alloc | apply Kd.V_drewN | apply Kd.V_drew)); exact HO224.out) hb); have n3_ := Aside0.mk (Kd.V_below (by (with_reducible repeat (first | apply Kd.V_alloc | apply Kd.V_drewN | apply Kd.V_drew)); exact HO228.out) hb); have n4_ := Aside0.mk (Kd.R_below (by (with_reducible repeat (first | apply Kd.R_alloc | apply Kd.R_drewN | apply Kd.R_drew)); exact HO232.out) hb); have n5_ := Aside0.mk (Kd.R_below (by (with_reducible repeat (first | apply Kd.R_alloc | apply Kd.R_drewN | apply Kd.R_drew)); exact HO236.out) hb); have n6_ := Aside0.mk (Kd.V_below (by (with_reducible repeat (first | apply Kd.V_alloc | apply Kd.V_drewN | apply Kd.V_drew)); exact HO240.out) hb); have n7_ := Aside0.mk (Kd.V_below (by (with_reducible repeat (first | apply Kd.V_alloc | apply Kd.V_drewN | apply Kd.V_drew)); exact HO243.out) hb); have n8_ := Aside0.mk (Kd.V_below (by (with_reducible repeat (first | apply Kd.V_alloc | apply Kd.V_drewN | apply Kd.V_drew)); exact HO246.out) hb); have n9_ := Aside0.mk (Kd.V_lower (Kd.V_mono (ok' := fun k_ => some k_ ≠ (.slice Ao20 y216.length co20 : Value).ownBlock ∧ some k_ ≠ (.slice Ao21 y219.length co21 : Value).ownBlock ∧ some k_ ≠ (.slice Ao27 y230.length co27 : Value).ownBlock ∧ some k_ ≠ (.slice Ao31 y234.length co31 : Value).ownBlock) ho0 (fun k_ hk_ => ⟨(Kd.fresh' (Kd.R_lt (by (with_reducible repeat (first | apply Kd.R_alloc | apply Kd.R_drewN | apply Kd.R_drew)); exact HO218.out)) k_ hk_), (Kd.fresh' (Kd.R_lt (by (with_reducible repeat (first | apply Kd.R_alloc | apply Kd.R_drewN | apply Kd.R_drew)); exact HO221.out)) k_ hk_), (Kd.fresh' (Kd.R_lt (by (with_reducible repeat (first | apply Kd.R_alloc | apply Kd.R_drewN | apply Kd.R_drew)); exact HO232.out)) k_ hk_), (Kd.fresh' (Kd.R_lt (by (with_reducible repeat (first | apply Kd.R_alloc | apply Kd.R_drewN | apply Kd.R_drew)); exact HO236.out)) k_ hk_)⟩)) (below_size (by repeat (first | (with_reducible first | exact HB.out | apply below_alloc | apply pw_below_drewN | apply below_drew1) | exact HB.out)))); have n10_ := Aside0.mk (below_step (by repeat (first | (with_reducible first | exact HB.out | apply below_alloc | apply pw_below_drewN | apply below_drew1) | exact HB.out)) hb); clear HO218; clear HO221; clear HO224; clear HO228; clear HO232; clear HO236; clear HO240; clear HO243; clear HO246; clear HB; have HO218 := n0_; have HO221 := n1_; have HO224 := n2_; have HO228 := n3_; have HO232 := n4_; have HO236 := n5_; have HO240 := n6_; have HO243 := n7_; have HO246 := n8_; have HO249 := n9_; have HB := n10_; clear n0_ n1_ n2_ n3_ n4_ n5_ n6_ n7_ n8_ n9_ n10_; (try clear hb); (try clear hb2); (try clear hk); (try clear hi); (try clear ho0); obtain ⟨Ao39, co39, eo39⟩ := Kd.V_slice HO249.out; subst eo39))
                go_ret
                exact ⟨by first | rfl | (simp [errW_none, errW_some] <;> rfl) | (simp [*, errW_none, errW_some] <;> rfl), by repeat (first | (with_reducible first | exact HB.out | apply below_alloc | apply pw_below_drewN | apply below_drew1) | exact HB.out)⟩
              · rw [if_neg c14] at H
                have c14b0 : ((t244.length : Int) == 4) = false := beq_eq_false_iff_ne.mpr c14
                have c14b1 : ((t244.length : Int) != 4) = true := bne_iff_ne.mpr c14
                obtain rfl := Option.some.inj H
                go_enter Try.func11, Try.ntmps11
                go_wp2_with (first | ((with_reducible refine gate_dst (N := 8) rfl ?_); (try (refine gate_guard (by rfl) ?_; dsimp only)); refine Kd.R_lit k62 _ 62 ?hg (N := 8) ?hd (xs := ([(⟨(⟨#[97]⟩ : ByteArray), (-1), 0⟩ : S62)] : List (S62))) (inner := [.string (⟨#[97]⟩ : ByteArray), .int .i64 (-1), .int .i64 0]) (ok := fun _ => True) (okp := fun _ => True) ?hr ?hp (fun _ hk => hk) trivial (Below.refl _ _) (Nat.le_refl _) (by simp) ?_; (case hd => rfl); (case hg => rfl); (case hr => first | (go_simp; done) | (go_simp; rfl)); (case hp => exact (Reps.c3 (show Kd.M k62 _ _ _ (⟨(⟨#[97]⟩ : ByteArray), (-1), 0⟩ : S62) [.string (⟨#[97]⟩ : ByteArray), .int .i64 (-1), .int .i64 0] from (k62_mkM _ _ _ (⟨(⟨#[97]⟩ : ByteArray), (-1), 0⟩ : S62) )) (Reps.none _ _))); intro v217 w40 ho41 hb hg_ hnew_; clear hg_ hnew_; (first | rw [← Ny216.out] at ho41 | (simp only [Int.reduceToNat] at ho41; rw [← Ny216.out] at ho41)); have n0_ := Aside0.mk (Kd.R_lower ho41 (below_size (by repeat (first | (with_reducible first | exact HB.out | apply below_alloc | apply pw_below_drewN | apply below_drew1) | exact HB.out)))); have n1_ := Aside0.mk (below_step (by repeat (first | (with_reducible first | exact HB.out | apply below_alloc | apply pw_below_drewN | apply below_drew1) | exact HB.out)) hb); clear HB; have HO218 := n0_; have HB := n1_; clear n0_ n1_; clear hb ho41) | ((with_reducible refine gate_dst (N := 11) rfl ?_); (try (refine gate_guard (by rfl) ?_; dsimp only)); refine Kd.R_lit k46 _ 46 ?hg (N := 11) ?hd (xs := ([(⟨0, 0, 9, 5, 0, 0⟩ : S46), (⟨0, 0, 4, 5, 0, 0⟩ : S46)] : List (S46))) (inner := [.int .i64 0, .int .i64 0, .int .i64 9, .int .i64 5, .int .i64 0, .int .i64 0, .int .i64 0, .int .i64 0, .int .i64 4, .int .i64 5, .int .i64 0, .int .i64 0]) (ok := fun _ => True) (okp := fun _ => True) ?hr ?hp (fun _ hk => hk) trivial (Below.refl _ _) (Nat.le_refl _) (by simp) ?_; (case hd => rfl); (case hg => rfl); (case hr => first | (go_simp; done) | (go_simp; rfl)); (case hp => exact (Reps.c6 (show Kd.M k46 _ _ _ (⟨0, 0, 9, 5, 0, 0⟩ : S46) [.int .i64 0, .int .i64 0, .int .i64 9, .int .i64 5, .int .i64 0, .int .i64 0] from (k46_mkM _ _ _ (⟨0, 0, 9, 5, 0, 0⟩ : S46) )) (Reps.c6 (show Kd.M k46 _ _ _ (⟨0, 0, 4, 5, 0, 0⟩ : S46) [.int .i64 0, .int .i64 0, .int .i64 4, .int .i64 5, .int .i64 0, .int .i64 0] from (k46_mkM _ _ _ (⟨0, 0, 4, 5, 0, 0⟩ : S46) )) (Reps.none _ _)))); intro v220 w42 ho43 hb hg_ hnew_; clear hg_ hnew_; (first | rw [← Ny219.out] at ho43 | (simp only [Int.reduceToNat] at ho43; rw [← Ny219.out] at ho43)); have n0_ := Aside0.mk (Kd.R_below (by (with_reducible repeat (first | apply Kd.R_alloc | apply Kd.R_drewN | apply Kd.R_drew)); exact HO218.out) hb); have n1_ := Aside0.mk (Kd.R_lower ho43 (below_size (by repeat (first | (with_reducible first | exact HB.out | apply below_alloc | apply pw_below_drewN | apply below_drew1) | exact HB.out)))); have n2_ := Aside0.mk (below_step (by repeat (first | (with_reducible first | exact HB.out | apply below_alloc | apply pw_below_drewN | apply below_drew1) | exact HB.out)) hb); clear HO218; clear HB; have HO218 := n0_; have HO221 := n1_; have HB := n2_; clear n0_ n1_ n2_; clear hb ho43; obtain ⟨Ao44, co44, eo44⟩ := Kd.R_slice HO218.out; subst eo44; obtain ⟨Ao45, co45, eo45⟩ := Kd.R_slice HO221.out; subst eo45) | ((with_reducible refine gate_callee (f := 9) rfl ?_); refine goesL_ (some 15) rfl rfl Try.func9 (by kernel_rfl) rfl #[.slice Ao44 y216.length co44, .slice Ao45 y219.length co45, .int .i64 0, .int .i64 7, .int .i64 0] rfl (by (try simp only [List.map_toArray, List.map_cons, List.map_nil]); first | done | rfl | (simp only [List.length_drop, List.length_take]; rfl)) ?_; (with_reducible refine (draw_Draws.calls k _ _ y216 _ _ y219 0 7 0 t222 t225 _ ?side1 ?side2 ?side3 ?side4 A1.out).mono ?_); (case side1 => repeat (first | exact (Kd.R_reads' HO218.out).2.2 | (with_reducible refine Kd.C_alloc ?_ _) | (with_reducible refine Kd.C_drewN ?_ _) | (with_reducible refine Kd.C_drew ?_))); (case side2 => exact (Kd.R_reads' HO218.out).2.1); (case side3 => repeat (first | exact (Kd.R_reads' HO221.out).2.2 | (with_reducible refine Kd.C_alloc ?_ _) | (with_reducible refine Kd.C_drewN ?_ _) | (with_reducible refine Kd.C_drew ?_))); (case side4 => exact (Kd.R_reads' HO221.out).2.1); rintro e w46 ⟨v223, rfl, ho0, hb⟩; refine ⟨_, rfl, ?_⟩; have n0_ := Aside0.mk (Kd.R_below (by (with_reducible repeat (first | apply Kd.R_alloc | apply Kd.R_drewN | apply Kd.R_drew)); exact HO218.out) hb); have n1_ := Aside0.mk (Kd.R_below (by (with_reducible repeat (first | apply Kd.R_alloc | apply Kd.R_drewN | apply Kd.R_drew)); exact HO221.out) hb); have n2_ := Aside0.mk (Kd.V_lower (Kd.V_mono (ok' := fun k_ => some k_ ≠ (.slice Ao44 y216.length co44 : Value).ownBlock ∧ some k_ ≠ (.slice Ao45 y219.length co45 : Value).ownBlock) ho0 (fun k_ hk_ => ⟨(Kd.fresh' (Kd.R_lt (by (with_reducible repeat (first | apply Kd.R_alloc | apply Kd.R_drewN | apply Kd.R_drew)); exact HO218.out)) k_ hk_), (Kd.fresh' (Kd.R_lt (by (with_reducible repeat (first | apply Kd.R_alloc | apply Kd.R_drewN | apply Kd.R_drew)); exact HO221.out)) k_ hk_)⟩)) (below_size (by repeat (first | (with_reducible first | exact HB.out | apply below_alloc | apply pw_below_drewN | apply below_drew1) | exact HB.out)))); have n3_ := Aside0.mk (below_step (by repeat (first | (with_reducible first | exact HB.out | apply below_alloc | apply pw_below_drewN | apply below_drew1) | exact HB.out)) hb); clear HO218; clear HO221; clear HB; have HO218 := n0_; have HO221 := n1_; have HO224 := n2_; have HB := n3_; clear n0_ n1_ n2_ n3_; (try clear hb); (try clear hb2); (try clear hk); (try clear hi); (try clear ho0); obtain ⟨Ao47, co47, eo47⟩ := Kd.V_slice HO224.out; subst eo47) | ((with_reducible refine gate_callee (f := 21) rfl ?_); refine goesL_ (some 20) rfl rfl Try.func21 (by kernel_rfl) rfl #[.slice Ao47 t222.length co47, .int .i64 6] rfl (by (try simp only [List.map_toArray, List.map_cons, List.map_nil]); first | done | rfl | (simp only [List.length_drop, List.length_take]; rfl)) ?_; (with_reducible refine (draw_Charge.calls k _ _ t222 6 t226 t229 _ ?side1 ?side2 A2.out).mono ?_); (case side1 => repeat (first | exact (Kd.V_reads' HO224.out).2.2 | (with_reducible refine Kd.C_alloc ?_ _) | (with_reducible refine Kd.C_drewN ?_ _) | (with_reducible refine Kd.C_drew ?_))); (case side2 => exact (Kd.V_reads' HO224.out).2.1); rintro e w48 ⟨v227, rfl, ho0, hb⟩; refine ⟨_, rfl, ?_⟩; have n0_ := Aside0.mk (Kd.R_below (by (with_reducible repeat (first | apply Kd.R_alloc | apply Kd.R_drewN | apply Kd.R_drew)); exact HO218.out) hb); have n1_ := Aside0.mk (Kd.R_below (by (with_reducible repeat (first | apply Kd.R_alloc | apply Kd.R_drewN | apply Kd.R_drew)); exact HO221.out) hb); have n2_ := Aside0.mk (Kd.V_below (by (with_reducible repeat (first | apply Kd.V_alloc | apply Kd.V_drewN | apply Kd.V_drew)); exact HO224.out) hb); have n3_ := Aside0.mk (Kd.V_lower (Kd.V_mono (ok' := fun k_ => some k_ ≠ (.slice Ao44 y216.length co44 : Value).ownBlock ∧ some k_ ≠ (.slice Ao45 y219.length co45 : Value).ownBlock) ho0 (fun k_ hk_ => ⟨(Kd.fresh' (Kd.R_lt (by (with_reducible repeat (first | apply Kd.R_alloc | apply Kd.R_drewN | apply Kd.R_drew)); exact HO218.out)) k_ hk_), (Kd.fresh' (Kd.R_lt (by (with_reducible repeat (first | apply Kd.R_alloc | apply Kd.R_drewN | apply Kd.R_drew)); exact HO221.out)) k_ hk_)⟩)) (below_size (by repeat (first | (with_reducible first | exact HB.out | apply below_alloc | apply pw_below_drewN | apply below_drew1) | exact HB.out)))); have n4_ := Aside0.mk (below_step (by repeat (first | (with_reducible first | exact HB.out | apply below_alloc | apply pw_below_drewN | apply below_drew1) | exact HB.out)) hb); clear HO218; clear HO221; clear HO224; clear HB; have HO218 := n0_; have HO221 := n1_; have HO224 := n2_; have HO228 := n3_; have HB := n4_; clear n0_ n1_ n2_ n3_ n4_; (try clear hb); (try clear hb2); (try clear hk); (try clear hi); (try clear ho0)) | ((with_reducible refine gate_dst (N := 29) rfl ?_); (try (refine gate_guard (by rfl) ?_; dsimp only)); refine Kd.R_lit k37 _ 37 ?hg (N := 29) ?hd (xs := ([(⟨1, 5⟩ : S37), (⟨0, 2⟩ : S37)] : List (S37))) (inner := [.int .i64 1, .int .i64 5, .int .i64 0, .int .i64 2]) (ok := fun _ => True) (okp := fun _ => True) ?hr ?hp (fun _ hk => hk) trivial (Below.refl _ _) (Nat.le_refl _) (by simp) ?_; (case hd => rfl); (case hg => rfl); (case hr => first | (go_simp; done) | (go_simp; rfl)); (case hp => exact (Reps.c2 (show Kd.M k37 _ _ _ (⟨1, 5⟩ : S37) [.int .i64 1, .int .i64 5] from (k37_mkM _ _ _ (⟨1, 5⟩ : S37) )) (Reps.c2 (show Kd.M k37 _ _ _ (⟨0, 2⟩ : S37) [.int .i64 0, .int .i64 2] from (k37_mkM _ _ _ (⟨0, 2⟩ : S37) )) (Reps.none _ _)))); intro v231 w49 ho50 hb hg_ hnew_; clear hg_ hnew_; (first | rw [← Ny230.out] at ho50 | (simp only [Int.reduceToNat] at ho50; rw [← Ny230.out] at ho50)); have n0_ := Aside0.mk (Kd.R_below (by (with_reducible repeat (first | apply Kd.R_alloc | apply Kd.R_drewN | apply Kd.R_drew)); exact HO218.out) hb); have n1_ := Aside0.mk (Kd.R_below (by (with_reducible repeat (first | apply Kd.R_alloc | apply Kd.R_drewN | apply Kd.R_drew)); exact HO221.out) hb); have n2_ := Aside0.mk (Kd.V_elder' (by (with_reducible repeat (first | apply Kd.V_alloc | apply Kd.V_drewN | apply Kd.V_drew)); exact HO224.out) (Kd.R_base ho50) hb); have n3_ := Aside0.mk (Kd.V_elder' (by (with_reducible repeat (first | apply Kd.V_alloc | apply Kd.V_drewN | apply Kd.V_drew)); exact HO228.out) (Kd.R_base ho50) hb); have n4_ := Aside0.mk (Kd.R_lower ho50 (below_size (by repeat (first | (with_reducible first | exact HB.out | apply below_alloc | apply pw_below_drewN | apply below_drew1) | exact HB.out)))); have n5_ := Aside0.mk (below_step (by repeat (first | (with_reducible first | exact HB.out | apply below_alloc | apply pw_below_drewN | apply below_drew1) | exact HB.out)) hb); clear HO218; clear HO221; clear HO224; clear HO228; clear HB; have HO218 := n0_; have HO221 := n1_; have HO224 := n2_; have HO228 := n3_; have HO232 := n4_; have HB := n5_; clear n0_ n1_ n2_ n3_ n4_ n5_; clear hb ho50; obtain ⟨Ao51, co51, eo51⟩ := Kd.R_slice HO232.out; subst eo51) | (go_at_call 12; (with_reducible refine (prebendref11_Alike.calls k _ _ t222 _ _ y230 true _ ?side1 ?side2 ?side3 ?side4 A4.out).mono ?_); (case side1 => repeat (first | exact (Kd.V_reads' HO224.out).2.2 | (with_reducible refine Kd.C_alloc ?_ _) | (with_reducible refine Kd.C_drewN ?_ _) | (with_reducible refine Kd.C_drew ?_))); (case side2 => exact (Kd.V_reads' HO224.out).2.1); (case side3 => repeat (first | exact (Kd.R_reads' HO232.out).2.2 | (with_reducible refine Kd.C_alloc ?_ _) | (with_reducible refine Kd.C_drewN ?_ _) | (with_reducible refine Kd.C_drew ?_))); (case side4 => exact (Kd.R_reads' HO232.out).2.1); rintro e w' ⟨rfl, ⟨nd, rfl⟩⟩) | ((with_reducible refine gate_dst (N := 40) rfl ?_); (try (refine gate_guard (by rfl) ?_; dsimp only)); refine Kd.R_lit k37 _ 37 ?hg (N := 40) ?hd (xs := ([(⟨1, 5⟩ : S37), (⟨0, 1⟩ : S37)] : List (S37))) (inner := [.int .i64 1, .int .i64 5, .int .i64 0, .int .i64 1]) (ok := fun _ => True) (okp := fun _ => True) ?hr ?hp (fun _ hk => hk) trivial (Below.refl _ _) (Nat.le_refl _) (by simp) ?_; (case hd => rfl); (case hg => rfl); (case hr => first | (go_simp; done) | (go_simp; rfl)); (case hp => exact (Reps.c2 (show Kd.M k37 _ _ _ (⟨1, 5⟩ : S37) [.int .i64 1, .int .i64 5] from (k37_mkM _ _ _ (⟨1, 5⟩ : S37) )) (Reps.c2 (show Kd.M k37 _ _ _ (⟨0, 1⟩ : S37) [.int .i64 0, .int .i64 1] from (k37_mkM _ _ _ (⟨0, 1⟩ : S37) )) (Reps.none _ _)))); intro v235 w52 ho53 hb hg_ hnew_; clear hg_ hnew_; (first | rw [← Ny234.out] at ho53 | (simp only [Int.reduceToNat] at ho53; rw [← Ny234.out] at ho53)); have n0_ := Aside0.mk (Kd.R_below (by (with_reducible repeat (first | apply Kd.R_alloc | apply Kd.R_drewN | apply Kd.R_drew)); exact HO218.out) hb); have n1_ := Aside0.mk (Kd.R_below (by (with_reducible repeat (first | apply Kd.R_alloc | apply Kd.R_drewN | apply Kd.R_drew)); exact HO221.out) hb); have n2_ := Aside0.mk (Kd.V_elder' (by (with_reducible repeat (first | apply Kd.V_alloc | apply Kd.V_drewN | apply Kd.V_drew)); exact HO224.out) (Kd.R_base ho53) hb); have n3_ := Aside0.mk (Kd.V_elder' (by (with_reducible repeat (first | apply Kd.V_alloc | apply Kd.V_drewN | apply Kd.V_drew)); exact HO228.out) (Kd.R_base ho53) hb); have n4_ := Aside0.mk (Kd.R_elder' (by (with_reducible repeat (first | apply Kd.R_alloc | apply Kd.R_drewN | apply Kd.R_drew)); exact HO232.out) (Kd.R_base ho53) hb); have n5_ := Aside0.mk (Kd.R_lower (Kd.R_new' ho53 (Kd.R_lt (by (with_reducible repeat (first | apply Kd.R_alloc | apply Kd.R_drewN | apply Kd.R_drew)); exact HO232.out))) (below_size (by repeat (first | (with_reducible first | exact HB.out | apply below_alloc | apply pw_below_drewN | apply below_drew1) | exact HB.out)))); have n6_ := Aside0.mk (below_step (by repeat (first | (with_reducible first | exact HB.out | apply below_alloc | apply pw_below_drewN | apply below_drew1) | exact HB.out)) hb); clear HO218; clear HO221; clear HO224; clear HO228; clear HO232; clear HB; have HO218 := n0_; have HO221 := n1_; have HO224 := n2_; have HO228 := n3_; have HO232 := n4_; have HO236 := n5_; have HB := n6_; clear n0_ n1_ n2_ n3_ n4_ n5_ n6_; clear hb ho53; obtain ⟨Ao54, co54, eo54⟩ := Kd.V_slice HO228.out; subst eo54; obtain ⟨Ao55, co55, eo55⟩ := Kd.R_slice HO236.out; subst eo55) | (go_at_call 12; (with_reducible refine (prebendref11_Alike.calls k _ _ t226 _ _ y234 true _ ?side1 ?side2 ?side3 ?side4 A7.out).mono ?_); (case side1 => repeat (first | exact (Kd.V_reads' HO228.out).2.2 | (with_reducible refine Kd.C_alloc ?_ _) | (with_reducible refine Kd.C_drewN ?_ _) | (with_reducible refine Kd.C_drew ?_))); (case side2 => exact (Kd.V_reads' HO228.out).2.1); (case side3 => repeat (first | exact (Kd.R_reads' HO236.out).2.2 | (with_reducible refine Kd.C_alloc ?_ _) | (with_reducible refine Kd.C_drewN ?_ _) | (with_reducible refine Kd.C_drew ?_))); (case side4 => exact (Kd.R_reads' HO236.out).2.1); rintro e w' ⟨rfl, ⟨nd, rfl⟩⟩) | (go_at_call 15; (with_reducible refine (draw_Lien.calls k _ _ t222 t238 _ ?side1 ?side2 A9.out).mono ?_); (case side1 => repeat (first | exact (Kd.V_reads' HO224.out).2.2 | (with_reducible refine Kd.C_alloc ?_ _) | (with_reducible refine Kd.C_drewN ?_ _) | (with_reducible refine Kd.C_drew ?_))); (case side2 => exact (Kd.V_reads' HO224.out).2.1); rintro e w56 ⟨v239, rfl, ho0, hb⟩; have n0_ := Aside0.mk (Kd.R_below (by (with_reducible repeat (first | apply Kd.R_alloc | apply Kd.R_drewN | apply Kd.R_drew)); exact HO218.out) hb); have n1_ := Aside0.mk (Kd.R_below (by (with_reducible repeat (first | apply Kd.R_alloc | apply Kd.R_drewN | apply Kd.R_drew)); exact HO221.out) hb); have n2_ := Aside0.mk (Kd.V_below (by (with_reducible repeat (first | apply Kd.V_alloc | apply Kd.V_drewN | apply Kd.V_drew)); exact HO224.out) hb); have n3_ := Aside0.mk (Kd.V_below (by (with_reducible repeat (first | apply Kd.V_alloc | apply Kd.V_drewN | apply Kd.V_drew)); exact HO228.out) hb); have n4_ := Aside0.mk (Kd.R_below (by (with_reducible repeat (first | apply Kd.R_alloc | apply Kd.R_drewN | apply Kd.R_drew)); exact HO232.out) hb); have n5_ := Aside0.mk (Kd.R_below (by (with_reducible repeat (first | apply Kd.R_alloc | apply Kd.R_drewN | apply Kd.R_drew)); exact HO236.out) hb); have n6_ := Aside0.mk (Kd.V_lower (Kd.V_mono (ok' := fun k_ => some k_ ≠ (.slice Ao44 y216.length co44 : Value).ownBlock ∧ some k_ ≠ (.slice Ao45 y219.length co45 : Value).ownBlock ∧ some k_ ≠ (.slice Ao51 y230.length co51 : Value).ownBlock ∧ some k_ ≠ (.slice Ao55 y234.length co55 : Value).ownBlock) ho0 (fun k_ hk_ => ⟨(Kd.fresh' (Kd.R_lt (by (with_reducible repeat (first | apply Kd.R_alloc | apply Kd.R_drewN | apply Kd.R_drew)); exact HO218.out)) k_ hk_), (Kd.fresh' (Kd.R_lt (by (with_reducible repeat (first | apply Kd.R_alloc | apply Kd.R_drewN | apply Kd.R_drew)); exact HO221.out)) k_ hk_), (Kd.fresh' (Kd.R_lt (by (with_reducible repeat (first | apply Kd.R_alloc | apply Kd.R_drewN | apply Kd.R_drew)); exact HO232.out)) k_ hk_), (Kd.fresh' (Kd.R_lt (by (with_reducible repeat (first | apply Kd.R_alloc | apply Kd.R_drewN | apply Kd.R_drew)); exact HO236.out)) k_ hk_)⟩)) (below_size (by repeat (first | (with_reducible first | exact HB.out | apply below_alloc | apply pw_below_drewN | apply below_drew1) | exact HB.out)))); have n7_ := Aside0.mk (below_step (by repeat (first | (with_reducible first | exact HB.out | apply below_alloc | apply pw_below_drewN | apply below_drew1) | exact HB.out)) hb); clear HO218; clear HO221; clear HO224; clear HO228; clear HO232; clear HO236; clear HB; have HO218 := n0_; have HO221 := n1_; have HO224 := n2_; have HO228 := n3_; have HO232 := n4_; have HO236 := n5_; have HO240 := n6_; have HB := n7_; clear n0_ n1_ n2_ n3_ n4_ n5_ n6_ n7_; (try clear hb); (try clear hb2); (try clear hk); (try clear hi); (try clear ho0); obtain ⟨Ao57, co57, eo57⟩ := Kd.V_slice HO240.out; subst eo57) | (go_at_call 19; (with_reducible refine (draw_Spend.calls k _ _ t222 _ _ t226 t241 _ ?side1 ?side2 ?side3 ?side4 A11.out).mono ?_); (case side1 => repeat (first | exact (Kd.V_reads' HO224.out).2.2 | (with_reducible refine Kd.C_alloc ?_ _) | (with_reducible refine Kd.C_drewN ?_ _) | (with_reducible refine Kd.C_drew ?_))); (case side2 => exact (Kd.V_reads' HO224.out).2.1); (case side3 => repeat (first | exact (Kd.V_reads' HO228.out).2.2 | (with_reducible refine Kd.C_alloc ?_ _) | (with_reducible refine Kd.C_drewN ?_ _) | (with_reducible refine Kd.C_drew ?_))); (case side4 => exact (Kd.V_reads' HO228.out).2.1); rintro e w58 ⟨v242, rfl, ho0, hb⟩; have n0_ := Aside0.mk (Kd.R_below (by (with_reducible repeat (first | apply Kd.R_alloc | apply Kd.R_drewN | apply Kd.R_drew)); exact HO218.out) hb); have n1_ := Aside0.mk (Kd.R_below (by (with_reducible repeat (first | apply Kd.R_alloc | apply Kd.R_drewN | apply Kd.R_drew)); exact HO221.out) hb); have n2_ := Aside0.mk (Kd.V_below (by (with_reducible repeat (first | apply Kd.V_alloc | apply Kd.V_drewN | apply Kd.V_drew)); exact HO224.out) hb); have n3_ := Aside0.mk (Kd.V_below (by (with_reducible repeat (first | apply Kd.V_alloc | apply Kd.V_drewN | apply Kd.V_drew)); exact HO228.out) hb); have n4_ := Aside0.mk (Kd.R_below (by (with_reducible repeat (first | apply Kd.R_alloc | apply Kd.R_drewN | apply Kd.R_drew)); exact HO232.out) hb); have n5_ := Aside0.mk (Kd.R_below (by (with_reducible repeat (first | apply Kd.R_alloc | apply Kd.R_drewN | apply Kd.R_drew)); exact HO236.out) hb); have n6_ := Aside0.mk (Kd.V_below (by (with_reducible repeat (first | apply Kd.V_alloc | apply Kd.V_drewN | apply Kd.V_drew)); exact HO240.out) hb); have n7_ := Aside0.mk (Kd.V_lower (Kd.V_mono (ok' := fun k_ => some k_ ≠ (.slice Ao44 y216.length co44 : Value).ownBlock ∧ some k_ ≠ (.slice Ao45 y219.length co45 : Value).ownBlock ∧ some k_ ≠ (.slice Ao51 y230.length co51 : Value).ownBlock ∧ some k_ ≠ (.slice Ao55 y234.length co55 : Value).ownBlock) ho0 (fun k_ hk_ => ⟨(Kd.fresh' (Kd.R_lt (by (with_reducible repeat (first | apply Kd.R_alloc | apply Kd.R_drewN | apply Kd.R_drew)); exact HO218.out)) k_ hk_), (Kd.fresh' (Kd.R_lt (by (with_reducible repeat (first | apply Kd.R_alloc | apply Kd.R_drewN | apply Kd.R_drew)); exact HO221.out)) k_ hk_), (Kd.fresh' (Kd.R_lt (by (with_reducible repeat (first | apply Kd.R_alloc | apply Kd.R_drewN | apply Kd.R_drew)); exact HO232.out)) k_ hk_), (Kd.fresh' (Kd.R_lt (by (with_reducible repeat (first | apply Kd.R_alloc | apply Kd.R_drewN | apply Kd.R_drew)); exact HO236.out)) k_ hk_)⟩)) (below_size (by repeat (first | (with_reducible first | exact HB.out | apply below_alloc | apply pw_below_drewN | apply below_drew1) | exact HB.out)))); have n8_ := Aside0.mk (below_step (by repeat (first | (with_reducible first | exact HB.out | apply below_alloc | apply pw_below_drewN | apply below_drew1) | exact HB.out)) hb); clear HO218; clear HO221; clear HO224; clear HO228; clear HO232; clear HO236; clear HO240; clear HB; have HO218 := n0_; have HO221 := n1_; have HO224 := n2_; have HO228 := n3_; have HO232 := n4_; have HO236 := n5_; have HO240 := n6_; have HO243 := n7_; have HB := n8_; clear n0_ n1_ n2_ n3_ n4_ n5_ n6_ n7_ n8_; (try clear hb); (try clear hb2); (try clear hk); (try clear hi); (try clear ho0); obtain ⟨Ao59, co59, eo59⟩ := Kd.V_slice HO243.out; subst eo59) | (go_at_call 17; (with_reducible refine (draw_Free.calls k _ _ t222 t244 _ ?side1 ?side2 A13.out).mono ?_); (case side1 => repeat (first | exact (Kd.V_reads' HO224.out).2.2 | (with_reducible refine Kd.C_alloc ?_ _) | (with_reducible refine Kd.C_drewN ?_ _) | (with_reducible refine Kd.C_drew ?_))); (case side2 => exact (Kd.V_reads' HO224.out).2.1); rintro e w60 ⟨v245, rfl, ho0, hb⟩; have n0_ := Aside0.mk (Kd.R_below (by (with_reducible repeat (first | apply Kd.R_alloc | apply Kd.R_drewN | apply Kd.R_drew)); exact HO218.out) hb); have n1_ := Aside0.mk (Kd.R_below (by (with_reducible repeat (first | apply Kd.R_alloc | apply Kd.R_drewN | apply Kd.R_drew)); exact HO221.out) hb); have n2_ := Aside0.mk (Kd.V_below (by (with_reducible repeat (first | apply Kd.V_alloc | apply Kd.V_drewN | apply Kd.V_drew)); exact HO224.out) hb); have n3_ := Aside0.mk (Kd.V_below (by (with_reducible repeat (first | apply Kd.V_alloc | apply Kd.V_drewN | apply Kd.V_drew)); exact HO228.out) hb); have n4_ := Aside0.mk (Kd.R_below (by (with_reducible repeat (first | apply Kd.R_alloc | apply Kd.R_drewN | apply Kd.R_drew)); exact HO232.out) hb); have n5_ := Aside0.mk (Kd.R_below (by (with_reducible repeat (first | apply Kd.R_alloc | apply Kd.R_drewN | apply Kd.R_drew)); exact HO236.out) hb); have n6_ := Aside0.mk (Kd.V_below (by (with_reducible repeat (first | apply Kd.V_alloc | apply Kd.V_drewN | apply Kd.V_drew)); exact HO240.out) hb); have n7_ := Aside0.mk (Kd.V_below (by (with_reducible repeat (first | apply Kd.V_alloc | apply Kd.V_drewN | apply Kd.V_drew)); exact HO243.out) hb); have n8_ := Aside0.mk (Kd.V_lower (Kd.V_mono (ok' := fun k_ => some k_ ≠ (.slice Ao44 y216.length co44 : Value).ownBlock ∧ some k_ ≠ (.slice Ao45 y219.length co45 : Value).ownBlock ∧ some k_ ≠ (.slice Ao51 y230.length co51 : Value).ownBlock ∧ some k_ ≠ (.slice Ao55 y234.length co55 : Value).ownBlock) ho0 (fun k_ hk_ => ⟨(Kd.fresh' (Kd.R_lt (by (with_reducible repeat (first | apply Kd.R_alloc | apply Kd.R_drewN | apply Kd.R_drew)); exact HO218.out)) k_ hk_), (Kd.fresh' (Kd.R_lt (by (with_reducible repeat (first | apply Kd.R_alloc | apply Kd.R_drewN | apply Kd.R_drew)); exact HO221.out)) k_ hk_), (Kd.fresh' (Kd.R_lt (by (with_reducible repeat (first | apply Kd.R_alloc | apply Kd.R_drewN | apply Kd.R_drew)); exact HO232.out)) k_ hk_), (Kd.fresh' (Kd.R_lt (by (with_reducible repeat (first | apply Kd.R_alloc | apply Kd.R_drewN | apply Kd.R_drew)); exact HO236.out)) k_ hk_)⟩)) (below_size (by repeat (first | (with_reducible first | exact HB.out | apply below_alloc | apply pw_below_drewN | apply below_drew1) | exact HB.out)))); have n9_ := Aside0.mk (below_step (by repeat (first | (with_reducible first | exact HB.out | apply below_alloc | apply pw_below_drewN | apply below_drew1) | exact HB.out)) hb); clear HO218; clear HO221; clear HO224; clear HO228; clear HO232; clear HO236; clear HO240; clear HO243; clear HB; have HO218 := n0_; have HO221 := n1_; have HO224 := n2_; have HO228 := n3_; have HO232 := n4_; have HO236 := n5_; have HO240 := n6_; have HO243 := n7_; have HO246 := n8_; have HB := n9_; clear n0_ n1_ n2_ n3_ n4_ n5_ n6_ n7_ n8_ n9_; (try clear hb); (try clear hb2); (try clear hk); (try clear hi); (try clear ho0); obtain ⟨Ao61, co61, eo61⟩ := Kd.V_slice HO246.out; subst eo61))
                go_ret
                exact ⟨by first | rfl | (simp [errW_none, errW_some] <;> rfl) | (simp [*, errW_none, errW_some] <;> rfl), by repeat (first | (with_reducible first | exact HB.out | apply below_alloc | apply pw_below_drewN | apply below_drew1) | exact HB.out)⟩
            · rw [if_neg c12] at H
              have c12b0 : ((t241.length : Int) == 5) = false := beq_eq_false_iff_ne.mpr c12
              have c12b1 : ((t241.length : Int) != 5) = true := bne_iff_ne.mpr c12
              obtain rfl := Option.some.inj H
              go_enter Try.func11, Try.ntmps11
              go_wp2_with (first | ((with_reducible refine gate_dst (N := 8) rfl ?_); (try (refine gate_guard (by rfl) ?_; dsimp only)); refine Kd.R_lit k62 _ 62 ?hg (N := 8) ?hd (xs := ([(⟨(⟨#[97]⟩ : ByteArray), (-1), 0⟩ : S62)] : List (S62))) (inner := [.string (⟨#[97]⟩ : ByteArray), .int .i64 (-1), .int .i64 0]) (ok := fun _ => True) (okp := fun _ => True) ?hr ?hp (fun _ hk => hk) trivial (Below.refl _ _) (Nat.le_refl _) (by simp) ?_; (case hd => rfl); (case hg => rfl); (case hr => first | (go_simp; done) | (go_simp; rfl)); (case hp => exact (Reps.c3 (show Kd.M k62 _ _ _ (⟨(⟨#[97]⟩ : ByteArray), (-1), 0⟩ : S62) [.string (⟨#[97]⟩ : ByteArray), .int .i64 (-1), .int .i64 0] from (k62_mkM _ _ _ (⟨(⟨#[97]⟩ : ByteArray), (-1), 0⟩ : S62) )) (Reps.none _ _))); intro v217 w62 ho63 hb hg_ hnew_; clear hg_ hnew_; (first | rw [← Ny216.out] at ho63 | (simp only [Int.reduceToNat] at ho63; rw [← Ny216.out] at ho63)); have n0_ := Aside0.mk (Kd.R_lower ho63 (below_size (by repeat (first | (with_reducible first | exact HB.out | apply below_alloc | apply pw_below_drewN | apply below_drew1) | exact HB.out)))); have n1_ := Aside0.mk (below_step (by repeat (first | (with_reducible first | exact HB.out | apply below_alloc | apply pw_below_drewN | apply below_drew1) | exact HB.out)) hb); clear HB; have HO218 := n0_; have HB := n1_; clear n0_ n1_; clear hb ho63) | ((with_reducible refine gate_dst (N := 11) rfl ?_); (try (refine gate_guard (by rfl) ?_; dsimp only)); refine Kd.R_lit k46 _ 46 ?hg (N := 11) ?hd (xs := ([(⟨0, 0, 9, 5, 0, 0⟩ : S46), (⟨0, 0, 4, 5, 0, 0⟩ : S46)] : List (S46))) (inner := [.int .i64 0, .int .i64 0, .int .i64 9, .int .i64 5, .int .i64 0, .int .i64 0, .int .i64 0, .int .i64 0, .int .i64 4, .int .i64 5, .int .i64 0, .int .i64 0]) (ok := fun _ => True) (okp := fun _ => True) ?hr ?hp (fun _ hk => hk) trivial (Below.refl _ _) (Nat.le_refl _) (by simp) ?_; (case hd => rfl); (case hg => rfl); (case hr => first | (go_simp; done) | (go_simp; rfl)); (case hp => exact (Reps.c6 (show Kd.M k46 _ _ _ (⟨0, 0, 9, 5, 0, 0⟩ : S46) [.int .i64 0, .int .i64 0, .int .i64 9, .int .i64 5, .int .i64 0, .int .i64 0] from (k46_mkM _ _ _ (⟨0, 0, 9, 5, 0, 0⟩ : S46) )) (Reps.c6 (show Kd.M k46 _ _ _ (⟨0, 0, 4, 5, 0, 0⟩ : S46) [.int .i64 0, .int .i64 0, .int .i64 4, .int .i64 5, .int .i64 0, .int .i64 0] from (k46_mkM _ _ _ (⟨0, 0, 4, 5, 0, 0⟩ : S46) )) (Reps.none _ _)))); intro v220 w64 ho65 hb hg_ hnew_; clear hg_ hnew_; (first | rw [← Ny219.out] at ho65 | (simp only [Int.reduceToNat] at ho65; rw [← Ny219.out] at ho65)); have n0_ := Aside0.mk (Kd.R_below (by (with_reducible repeat (first | apply Kd.R_alloc | apply Kd.R_drewN | apply Kd.R_drew)); exact HO218.out) hb); have n1_ := Aside0.mk (Kd.R_lower ho65 (below_size (by repeat (first | (with_reducible first | exact HB.out | apply below_alloc | apply pw_below_drewN | apply below_drew1) | exact HB.out)))); have n2_ := Aside0.mk (below_step (by repeat (first | (with_reducible first | exact HB.out | apply below_alloc | apply pw_below_drewN | apply below_drew1) | exact HB.out)) hb); clear HO218; clear HB; have HO218 := n0_; have HO221 := n1_; have HB := n2_; clear n0_ n1_ n2_; clear hb ho65; obtain ⟨Ao66, co66, eo66⟩ := Kd.R_slice HO218.out; subst eo66; obtain ⟨Ao67, co67, eo67⟩ := Kd.R_slice HO221.out; subst eo67) | ((with_reducible refine gate_callee (f := 9) rfl ?_); refine goesL_ (some 15) rfl rfl Try.func9 (by kernel_rfl) rfl #[.slice Ao66 y216.length co66, .slice Ao67 y219.length co67, .int .i64 0, .int .i64 7, .int .i64 0] rfl (by (try simp only [List.map_toArray, List.map_cons, List.map_nil]); first | done | rfl | (simp only [List.length_drop, List.length_take]; rfl)) ?_; (with_reducible refine (draw_Draws.calls k _ _ y216 _ _ y219 0 7 0 t222 t225 _ ?side1 ?side2 ?side3 ?side4 A1.out).mono ?_); (case side1 => repeat (first | exact (Kd.R_reads' HO218.out).2.2 | (with_reducible refine Kd.C_alloc ?_ _) | (with_reducible refine Kd.C_drewN ?_ _) | (with_reducible refine Kd.C_drew ?_))); (case side2 => exact (Kd.R_reads' HO218.out).2.1); (case side3 => repeat (first | exact (Kd.R_reads' HO221.out).2.2 | (with_reducible refine Kd.C_alloc ?_ _) | (with_reducible refine Kd.C_drewN ?_ _) | (with_reducible refine Kd.C_drew ?_))); (case side4 => exact (Kd.R_reads' HO221.out).2.1); rintro e w68 ⟨v223, rfl, ho0, hb⟩; refine ⟨_, rfl, ?_⟩; have n0_ := Aside0.mk (Kd.R_below (by (with_reducible repeat (first | apply Kd.R_alloc | apply Kd.R_drewN | apply Kd.R_drew)); exact HO218.out) hb); have n1_ := Aside0.mk (Kd.R_below (by (with_reducible repeat (first | apply Kd.R_alloc | apply Kd.R_drewN | apply Kd.R_drew)); exact HO221.out) hb); have n2_ := Aside0.mk (Kd.V_lower (Kd.V_mono (ok' := fun k_ => some k_ ≠ (.slice Ao66 y216.length co66 : Value).ownBlock ∧ some k_ ≠ (.slice Ao67 y219.length co67 : Value).ownBlock) ho0 (fun k_ hk_ => ⟨(Kd.fresh' (Kd.R_lt (by (with_reducible repeat (first | apply Kd.R_alloc | apply Kd.R_drewN | apply Kd.R_drew)); exact HO218.out)) k_ hk_), (Kd.fresh' (Kd.R_lt (by (with_reducible repeat (first | apply Kd.R_alloc | apply Kd.R_drewN | apply Kd.R_drew)); exact HO221.out)) k_ hk_)⟩)) (below_size (by repeat (first | (with_reducible first | exact HB.out | apply below_alloc | apply pw_below_drewN | apply below_drew1) | exact HB.out)))); have n3_ := Aside0.mk (below_step (by repeat (first | (with_reducible first | exact HB.out | apply below_alloc | apply pw_below_drewN | apply below_drew1) | exact HB.out)) hb); clear HO218; clear HO221; clear HB; have HO218 := n0_; have HO221 := n1_; have HO224 := n2_; have HB := n3_; clear n0_ n1_ n2_ n3_; (try clear hb); (try clear hb2); (try clear hk); (try clear hi); (try clear ho0); obtain ⟨Ao69, co69, eo69⟩ := Kd.V_slice HO224.out; subst eo69) | ((with_reducible refine gate_callee (f := 21) rfl ?_); refine goesL_ (some 20) rfl rfl Try.func21 (by kernel_rfl) rfl #[.slice Ao69 t222.length co69, .int .i64 6] rfl (by (try simp only [List.map_toArray, List.map_cons, List.map_nil]); first | done | rfl | (simp only [List.length_drop, List.length_take]; rfl)) ?_; (with_reducible refine (draw_Charge.calls k _ _ t222 6 t226 t229 _ ?side1 ?side2 A2.out).mono ?_); (case side1 => repeat (first | exact (Kd.V_reads' HO224.out).2.2 | (with_reducible refine Kd.C_alloc ?_ _) | (with_reducible refine Kd.C_drewN ?_ _) | (with_reducible refine Kd.C_drew ?_))); (case side2 => exact (Kd.V_reads' HO224.out).2.1); rintro e w70 ⟨v227, rfl, ho0, hb⟩; refine ⟨_, rfl, ?_⟩; have n0_ := Aside0.mk (Kd.R_below (by (with_reducible repeat (first | apply Kd.R_alloc | apply Kd.R_drewN | apply Kd.R_drew)); exact HO218.out) hb); have n1_ := Aside0.mk (Kd.R_below (by (with_reducible repeat (first | apply Kd.R_alloc | apply Kd.R_drewN | apply Kd.R_drew)); exact HO221.out) hb); have n2_ := Aside0.mk (Kd.V_below (by (with_reducible repeat (first | apply Kd.V_alloc | apply Kd.V_drewN | apply Kd.V_drew)); exact HO224.out) hb); have n3_ := Aside0.mk (Kd.V_lower (Kd.V_mono (ok' := fun k_ => some k_ ≠ (.slice Ao66 y216.length co66 : Value).ownBlock ∧ some k_ ≠ (.slice Ao67 y219.length co67 : Value).ownBlock) ho0 (fun k_ hk_ => ⟨(Kd.fresh' (Kd.R_lt (by (with_reducible repeat (first | apply Kd.R_alloc | apply Kd.R_drewN | apply Kd.R_drew)); exact HO218.out)) k_ hk_), (Kd.fresh' (Kd.R_lt (by (with_reducible repeat (first | apply Kd.R_alloc | apply Kd.R_drewN | apply Kd.R_drew)); exact HO221.out)) k_ hk_)⟩)) (below_size (by repeat (first | (with_reducible first | exact HB.out | apply below_alloc | apply pw_below_drewN | apply below_drew1) | exact HB.out)))); have n4_ := Aside0.mk (below_step (by repeat (first | (with_reducible first | exact HB.out | apply below_alloc | apply pw_below_drewN | apply below_drew1) | exact HB.out)) hb); clear HO218; clear HO221; clear HO224; clear HB; have HO218 := n0_; have HO221 := n1_; have HO224 := n2_; have HO228 := n3_; have HB := n4_; clear n0_ n1_ n2_ n3_ n4_; (try clear hb); (try clear hb2); (try clear hk); (try clear hi); (try clear ho0)) | ((with_reducible refine gate_dst (N := 29) rfl ?_); (try (refine gate_guard (by rfl) ?_; dsimp only)); refine Kd.R_lit k37 _ 37 ?hg (N := 29) ?hd (xs := ([(⟨1, 5⟩ : S37), (⟨0, 2⟩ : S37)] : List (S37))) (inner := [.int .i64 1, .int .i64 5, .int .i64 0, .int .i64 2]) (ok := fun _ => True) (okp := fun _ => True) ?hr ?hp (fun _ hk => hk) trivial (Below.refl _ _) (Nat.le_refl _) (by simp) ?_; (case hd => rfl); (case hg => rfl); (case hr => first | (go_simp; done) | (go_simp; rfl)); (case hp => exact (Reps.c2 (show Kd.M k37 _ _ _ (⟨1, 5⟩ : S37) [.int .i64 1, .int .i64 5] from (k37_mkM _ _ _ (⟨1, 5⟩ : S37) )) (Reps.c2 (show Kd.M k37 _ _ _ (⟨0, 2⟩ : S37) [.int .i64 0, .int .i64 2] from (k37_mkM _ _ _ (⟨0, 2⟩ : S37) )) (Reps.none _ _)))); intro v231 w71 ho72 hb hg_ hnew_; clear hg_ hnew_; (first | rw [← Ny230.out] at ho72 | (simp only [Int.reduceToNat] at ho72; rw [← Ny230.out] at ho72)); have n0_ := Aside0.mk (Kd.R_below (by (with_reducible repeat (first | apply Kd.R_alloc | apply Kd.R_drewN | apply Kd.R_drew)); exact HO218.out) hb); have n1_ := Aside0.mk (Kd.R_below (by (with_reducible repeat (first | apply Kd.R_alloc | apply Kd.R_drewN | apply Kd.R_drew)); exact HO221.out) hb); have n2_ := Aside0.mk (Kd.V_elder' (by (with_reducible repeat (first | apply Kd.V_alloc | apply Kd.V_drewN | apply Kd.V_drew)); exact HO224.out) (Kd.R_base ho72) hb); have n3_ := Aside0.mk (Kd.V_elder' (by (with_reducible repeat (first | apply Kd.V_alloc | apply Kd.V_drewN | apply Kd.V_drew)); exact HO228.out) (Kd.R_base ho72) hb); have n4_ := Aside0.mk (Kd.R_lower ho72 (below_size (by repeat (first | (with_reducible first | exact HB.out | apply below_alloc | apply pw_below_drewN | apply below_drew1) | exact HB.out)))); have n5_ := Aside0.mk (below_step (by repeat (first | (with_reducible first | exact HB.out | apply below_alloc | apply pw_below_drewN | apply below_drew1) | exact HB.out)) hb); clear HO218; clear HO221; clear HO224; clear HO228; clear HB; have HO218 := n0_; have HO221 := n1_; have HO224 := n2_; have HO228 := n3_; have HO232 := n4_; have HB := n5_; clear n0_ n1_ n2_ n3_ n4_ n5_; clear hb ho72; obtain ⟨Ao73, co73, eo73⟩ := Kd.R_slice HO232.out; subst eo73) | (go_at_call 12; (with_reducible refine (prebendref11_Alike.calls k _ _ t222 _ _ y230 true _ ?side1 ?side2 ?side3 ?side4 A4.out).mono ?_); (case side1 => repeat (first | exact (Kd.V_reads' HO224.out).2.2 | (with_reducible refine Kd.C_alloc ?_ _) | (with_reducible refine Kd.C_drewN ?_ _) | (with_reducible refine Kd.C_drew ?_))); (case side2 => exact (Kd.V_reads' HO224.out).2.1); (case side3 => repeat (first | exact (Kd.R_reads' HO232.out).2.2 | (with_reducible refine Kd.C_alloc ?_ _) | (with_reducible refine Kd.C_drewN ?_ _) | (with_reducible refine Kd.C_drew ?_))); (case side4 => exact (Kd.R_reads' HO232.out).2.1); rintro e w' ⟨rfl, ⟨nd, rfl⟩⟩) | ((with_reducible refine gate_dst (N := 40) rfl ?_); (try (refine gate_guard (by rfl) ?_; dsimp only)); refine Kd.R_lit k37 _ 37 ?hg (N := 40) ?hd (xs := ([(⟨1, 5⟩ : S37), (⟨0, 1⟩ : S37)] : List (S37))) (inner := [.int .i64 1, .int .i64 5, .int .i64 0, .int .i64 1]) (ok := fun _ => True) (okp := fun _ => True) ?hr ?hp (fun _ hk => hk) trivial (Below.refl _ _) (Nat.le_refl _) (by simp) ?_; (case hd => rfl); (case hg => rfl); (case hr => first | (go_simp; done) | (go_simp; rfl)); (case hp => exact (Reps.c2 (show Kd.M k37 _ _ _ (⟨1, 5⟩ : S37) [.int .i64 1, .int .i64 5] from (k37_mkM _ _ _ (⟨1, 5⟩ : S37) )) (Reps.c2 (show Kd.M k37 _ _ _ (⟨0, 1⟩ : S37) [.int .i64 0, .int .i64 1] from (k37_mkM _ _ _ (⟨0, 1⟩ : S37) )) (Reps.none _ _)))); intro v235 w74 ho75 hb hg_ hnew_; clear hg_ hnew_; (first | rw [← Ny234.out] at ho75 | (simp only [Int.reduceToNat] at ho75; rw [← Ny234.out] at ho75)); have n0_ := Aside0.mk (Kd.R_below (by (with_reducible repeat (first | apply Kd.R_alloc | apply Kd.R_drewN | apply Kd.R_drew)); exact HO218.out) hb); have n1_ := Aside0.mk (Kd.R_below (by (with_reducible repeat (first | apply Kd.R_alloc | apply Kd.R_drewN | apply Kd.R_drew)); exact HO221.out) hb); have n2_ := Aside0.mk (Kd.V_elder' (by (with_reducible repeat (first | apply Kd.V_alloc | apply Kd.V_drewN | apply Kd.V_drew)); exact HO224.out) (Kd.R_base ho75) hb); have n3_ := Aside0.mk (Kd.V_elder' (by (with_reducible repeat (first | apply Kd.V_alloc | apply Kd.V_drewN | apply Kd.V_drew)); exact HO228.out) (Kd.R_base ho75) hb); have n4_ := Aside0.mk (Kd.R_elder' (by (with_reducible repeat (first | apply Kd.R_alloc | apply Kd.R_drewN | apply Kd.R_drew)); exact HO232.out) (Kd.R_base ho75) hb); have n5_ := Aside0.mk (Kd.R_lower (Kd.R_new' ho75 (Kd.R_lt (by (with_reducible repeat (first | apply Kd.R_alloc | apply Kd.R_drewN | apply Kd.R_drew)); exact HO232.out))) (below_size (by repeat (first | (with_reducible first | exact HB.out | apply below_alloc | apply pw_below_drewN | apply below_drew1) | exact HB.out)))); have n6_ := Aside0.mk (below_step (by repeat (first | (with_reducible first | exact HB.out | apply below_alloc | apply pw_below_drewN | apply below_drew1) | exact HB.out)) hb); clear HO218; clear HO221; clear HO224; clear HO228; clear HO232; clear HB; have HO218 := n0_; have HO221 := n1_; have HO224 := n2_; have HO228 := n3_; have HO232 := n4_; have HO236 := n5_; have HB := n6_; clear n0_ n1_ n2_ n3_ n4_ n5_ n6_; clear hb ho75; obtain ⟨Ao76, co76, eo76⟩ := Kd.V_slice HO228.out; subst eo76; obtain ⟨Ao77, co77, eo77⟩ := Kd.R_slice HO236.out; subst eo77) | (go_at_call 12; (with_reducible refine (prebendref11_Alike.calls k _ _ t226 _ _ y234 true _ ?side1 ?side2 ?side3 ?side4 A7.out).mono ?_); (case side1 => repeat (first | exact (Kd.V_reads' HO228.out).2.2 | (with_reducible refine Kd.C_alloc ?_ _) | (with_reducible refine Kd.C_drewN ?_ _) | (with_reducible refine Kd.C_drew ?_))); (case side2 => exact (Kd.V_reads' HO228.out).2.1); (case side3 => repeat (first | exact (Kd.R_reads' HO236.out).2.2 | (with_reducible refine Kd.C_alloc ?_ _) | (with_reducible refine Kd.C_drewN ?_ _) | (with_reducible refine Kd.C_drew ?_))); (case side4 => exact (Kd.R_reads' HO236.out).2.1); rintro e w' ⟨rfl, ⟨nd, rfl⟩⟩) | (go_at_call 15; (with_reducible refine (draw_Lien.calls k _ _ t222 t238 _ ?side1 ?side2 A9.out).mono ?_); (case side1 => repeat (first | exact (Kd.V_reads' HO224.out).2.2 | (with_reducible refine Kd.C_alloc ?_ _) | (with_reducible refine Kd.C_drewN ?_ _) | (with_reducible refine Kd.C_drew ?_))); (case side2 => exact (Kd.V_reads' HO224.out).2.1); rintro e w78 ⟨v239, rfl, ho0, hb⟩; have n0_ := Aside0.mk (Kd.R_below (by (with_reducible repeat (first | apply Kd.R_alloc | apply Kd.R_drewN | apply Kd.R_drew)); exact HO218.out) hb); have n1_ := Aside0.mk (Kd.R_below (by (with_reducible repeat (first | apply Kd.R_alloc | apply Kd.R_drewN | apply Kd.R_drew)); exact HO221.out) hb); have n2_ := Aside0.mk (Kd.V_below (by (with_reducible repeat (first | apply Kd.V_alloc | apply Kd.V_drewN | apply Kd.V_drew)); exact HO224.out) hb); have n3_ := Aside0.mk (Kd.V_below (by (with_reducible repeat (first | apply Kd.V_alloc | apply Kd.V_drewN | apply Kd.V_drew)); exact HO228.out) hb); have n4_ := Aside0.mk (Kd.R_below (by (with_reducible repeat (first | apply Kd.R_alloc | apply Kd.R_drewN | apply Kd.R_drew)); exact HO232.out) hb); have n5_ := Aside0.mk (Kd.R_below (by (with_reducible repeat (first | apply Kd.R_alloc | apply Kd.R_drewN | apply Kd.R_drew)); exact HO236.out) hb); have n6_ := Aside0.mk (Kd.V_lower (Kd.V_mono (ok' := fun k_ => some k_ ≠ (.slice Ao66 y216.length co66 : Value).ownBlock ∧ some k_ ≠ (.slice Ao67 y219.length co67 : Value).ownBlock ∧ some k_ ≠ (.slice Ao73 y230.length co73 : Value).ownBlock ∧ some k_ ≠ (.slice Ao77 y234.length co77 : Value).ownBlock) ho0 (fun k_ hk_ => ⟨(Kd.fresh' (Kd.R_lt (by (with_reducible repeat (first | apply Kd.R_alloc | apply Kd.R_drewN | apply Kd.R_drew)); exact HO218.out)) k_ hk_), (Kd.fresh' (Kd.R_lt (by (with_reducible repeat (first | apply Kd.R_alloc | apply Kd.R_drewN | apply Kd.R_drew)); exact HO221.out)) k_ hk_), (Kd.fresh' (Kd.R_lt (by (with_reducible repeat (first | apply Kd.R_alloc | apply Kd.R_drewN | apply Kd.R_drew)); exact HO232.out)) k_ hk_), (Kd.fresh' (Kd.R_lt (by (with_reducible repeat (first | apply Kd.R_alloc | apply Kd.R_drewN | apply Kd.R_drew)); exact HO236.out)) k_ hk_)⟩)) (below_size (by repeat (first | (with_reducible first | exact HB.out | apply below_alloc | apply pw_below_drewN | apply below_drew1) | exact HB.out)))); have n7_ := Aside0.mk (below_step (by repeat (first | (with_reducible first | exact HB.out | apply below_alloc | apply pw_below_drewN | apply below_drew1) | exact HB.out)) hb); clear HO218; clear HO221; clear HO224; clear HO228; clear HO232; clear HO236; clear HB; have HO218 := n0_; have HO221 := n1_; have HO224 := n2_; have HO228 := n3_; have HO232 := n4_; have HO236 := n5_; have HO240 := n6_; have HB := n7_; clear n0_ n1_ n2_ n3_ n4_ n5_ n6_ n7_; (try clear hb); (try clear hb2); (try clear hk); (try clear hi); (try clear ho0); obtain ⟨Ao79, co79, eo79⟩ := Kd.V_slice HO240.out; subst eo79) | (go_at_call 19; (with_reducible refine (draw_Spend.calls k _ _ t222 _ _ t226 t241 _ ?side1 ?side2 ?side3 ?side4 A11.out).mono ?_); (case side1 => repeat (first | exact (Kd.V_reads' HO224.out).2.2 | (with_reducible refine Kd.C_alloc ?_ _) | (with_reducible refine Kd.C_drewN ?_ _) | (with_reducible refine Kd.C_drew ?_))); (case side2 => exact (Kd.V_reads' HO224.out).2.1); (case side3 => repeat (first | exact (Kd.V_reads' HO228.out).2.2 | (with_reducible refine Kd.C_alloc ?_ _) | (with_reducible refine Kd.C_drewN ?_ _) | (with_reducible refine Kd.C_drew ?_))); (case side4 => exact (Kd.V_reads' HO228.out).2.1); rintro e w80 ⟨v242, rfl, ho0, hb⟩; have n0_ := Aside0.mk (Kd.R_below (by (with_reducible repeat (first | apply Kd.R_alloc | apply Kd.R_drewN | apply Kd.R_drew)); exact HO218.out) hb); have n1_ := Aside0.mk (Kd.R_below (by (with_reducible repeat (first | apply Kd.R_alloc | apply Kd.R_drewN | apply Kd.R_drew)); exact HO221.out) hb); have n2_ := Aside0.mk (Kd.V_below (by (with_reducible repeat (first | apply Kd.V_alloc | apply Kd.V_drewN | apply Kd.V_drew)); exact HO224.out) hb); have n3_ := Aside0.mk (Kd.V_below (by (with_reducible repeat (first | apply Kd.V_alloc | apply Kd.V_drewN | apply Kd.V_drew)); exact HO228.out) hb); have n4_ := Aside0.mk (Kd.R_below (by (with_reducible repeat (first | apply Kd.R_alloc | apply Kd.R_drewN | apply Kd.R_drew)); exact HO232.out) hb); have n5_ := Aside0.mk (Kd.R_below (by (with_reducible repeat (first | apply Kd.R_alloc | apply Kd.R_drewN | apply Kd.R_drew)); exact HO236.out) hb); have n6_ := Aside0.mk (Kd.V_below (by (with_reducible repeat (first | apply Kd.V_alloc | apply Kd.V_drewN | apply Kd.V_drew)); exact HO240.out) hb); have n7_ := Aside0.mk (Kd.V_lower (Kd.V_mono (ok' := fun k_ => some k_ ≠ (.slice Ao66 y216.length co66 : Value).ownBlock ∧ some k_ ≠ (.slice Ao67 y219.length co67 : Value).ownBlock ∧ some k_ ≠ (.slice Ao73 y230.length co73 : Value).ownBlock ∧ some k_ ≠ (.slice Ao77 y234.length co77 : Value).ownBlock) ho0 (fun k_ hk_ => ⟨(Kd.fresh' (Kd.R_lt (by (with_reducible repeat (first | apply Kd.R_alloc | apply Kd.R_drewN | apply Kd.R_drew)); exact HO218.out)) k_ hk_), (Kd.fresh' (Kd.R_lt (by (with_reducible repeat (first | apply Kd.R_alloc | apply Kd.R_drewN | apply Kd.R_drew)); exact HO221.out)) k_ hk_), (Kd.fresh' (Kd.R_lt (by (with_reducible repeat (first | apply Kd.R_alloc | apply Kd.R_drewN | apply Kd.R_drew)); exact HO232.out)) k_ hk_), (Kd.fresh' (Kd.R_lt (by (with_reducible repeat (first | apply Kd.R_alloc | apply Kd.R_drewN | apply Kd.R_drew)); exact HO236.out)) k_ hk_)⟩)) (below_size (by repeat (first | (with_reducible first | exact HB.out | apply below_alloc | apply pw_below_drewN | apply below_drew1) | exact HB.out)))); have n8_ := Aside0.mk (below_step (by repeat (first | (with_reducible first | exact HB.out | apply below_alloc | apply pw_below_drewN | apply below_drew1) | exact HB.out)) hb); clear HO218; clear HO221; clear HO224; clear HO228; clear HO232; clear HO236; clear HO240; clear HB; have HO218 := n0_; have HO221 := n1_; have HO224 := n2_; have HO228 := n3_; have HO232 := n4_; have HO236 := n5_; have HO240 := n6_; have HO243 := n7_; have HB := n8_; clear n0_ n1_ n2_ n3_ n4_ n5_ n6_ n7_ n8_; (try clear hb); (try clear hb2); (try clear hk); (try clear hi); (try clear ho0); obtain ⟨Ao81, co81, eo81⟩ := Kd.V_slice HO243.out; subst eo81))
              go_ret
              exact ⟨by first | rfl | (simp [errW_none, errW_some] <;> rfl) | (simp [*, errW_none, errW_some] <;> rfl), by repeat (first | (with_reducible first | exact HB.out | apply below_alloc | apply pw_below_drewN | apply below_drew1) | exact HB.out)⟩
          · rw [if_neg c10] at H
            have c10b0 : ((t238.length : Int) == 4) = false := beq_eq_false_iff_ne.mpr c10
            have c10b1 : ((t238.length : Int) != 4) = true := bne_iff_ne.mpr c10
            obtain rfl := Option.some.inj H
            go_enter Try.func11, Try.ntmps11
            go_wp2_with (first | ((with_reducible refine gate_dst (N := 8) rfl ?_); (try (refine gate_guard (by rfl) ?_; dsimp only)); refine Kd.R_lit k62 _ 62 ?hg (N := 8) ?hd (xs := ([(⟨(⟨#[97]⟩ : ByteArray), (-1), 0⟩ : S62)] : List (S62))) (inner := [.string (⟨#[97]⟩ : ByteArray), .int .i64 (-1), .int .i64 0]) (ok := fun _ => True) (okp := fun _ => True) ?hr ?hp (fun _ hk => hk) trivial (Below.refl _ _) (Nat.le_refl _) (by simp) ?_; (case hd => rfl); (case hg => rfl); (case hr => first | (go_simp; done) | (go_simp; rfl)); (case hp => exact (Reps.c3 (show Kd.M k62 _ _ _ (⟨(⟨#[97]⟩ : ByteArray), (-1), 0⟩ : S62) [.string (⟨#[97]⟩ : ByteArray), .int .i64 (-1), .int .i64 0] from (k62_mkM _ _ _ (⟨(⟨#[97]⟩ : ByteArray), (-1), 0⟩ : S62) )) (Reps.none _ _))); intro v217 w82 ho83 hb hg_ hnew_; clear hg_ hnew_; (first | rw [← Ny216.out] at ho83 | (simp only [Int.reduceToNat] at ho83; rw [← Ny216.out] at ho83)); have n0_ := Aside0.mk (Kd.R_lower ho83 (below_size (by repeat (first | (with_reducible first | exact HB.out | apply below_alloc | apply pw_below_drewN | apply below_drew1) | exact HB.out)))); have n1_ := Aside0.mk (below_step (by repeat (first | (with_reducible first | exact HB.out | apply below_alloc | apply pw_below_drewN | apply below_drew1) | exact HB.out)) hb); clear HB; have HO218 := n0_; have HB := n1_; clear n0_ n1_; clear hb ho83) | ((with_reducible refine gate_dst (N := 11) rfl ?_); (try (refine gate_guard (by rfl) ?_; dsimp only)); refine Kd.R_lit k46 _ 46 ?hg (N := 11) ?hd (xs := ([(⟨0, 0, 9, 5, 0, 0⟩ : S46), (⟨0, 0, 4, 5, 0, 0⟩ : S46)] : List (S46))) (inner := [.int .i64 0, .int .i64 0, .int .i64 9, .int .i64 5, .int .i64 0, .int .i64 0, .int .i64 0, .int .i64 0, .int .i64 4, .int .i64 5, .int .i64 0, .int .i64 0]) (ok := fun _ => True) (okp := fun _ => True) ?hr ?hp (fun _ hk => hk) trivial (Below.refl _ _) (Nat.le_refl _) (by simp) ?_; (case hd => rfl); (case hg => rfl); (case hr => first | (go_simp; done) | (go_simp; rfl)); (case hp => exact (Reps.c6 (show Kd.M k46 _ _ _ (⟨0, 0, 9, 5, 0, 0⟩ : S46) [.int .i64 0, .int .i64 0, .int .i64 9, .int .i64 5, .int .i64 0, .int .i64 0] from (k46_mkM _ _ _ (⟨0, 0, 9, 5, 0, 0⟩ : S46) )) (Reps.c6 (show Kd.M k46 _ _ _ (⟨0, 0, 4, 5, 0, 0⟩ : S46) [.int .i64 0, .int .i64 0, .int .i64 4, .int .i64 5, .int .i64 0, .int .i64 0] from (k46_mkM _ _ _ (⟨0, 0, 4, 5, 0, 0⟩ : S46) )) (Reps.none _ _)))); intro v220 w84 ho85 hb hg_ hnew_; clear hg_ hnew_; (first | rw [← Ny219.out] at ho85 | (simp only [Int.reduceToNat] at ho85; rw [← Ny219.out] at ho85)); have n0_ := Aside0.mk (Kd.R_below (by (with_reducible repeat (first | apply Kd.R_alloc | apply Kd.R_drewN | apply Kd.R_drew)); exact HO218.out) hb); have n1_ := Aside0.mk (Kd.R_lower ho85 (below_size (by repeat (first | (with_reducible first | exact HB.out | apply below_alloc | apply pw_below_drewN | apply below_drew1) | exact HB.out)))); have n2_ := Aside0.mk (below_step (by repeat (first | (with_reducible first | exact HB.out | apply below_alloc | apply pw_below_drewN | apply below_drew1) | exact HB.out)) hb); clear HO218; clear HB; have HO218 := n0_; have HO221 := n1_; have HB := n2_; clear n0_ n1_ n2_; clear hb ho85; obtain ⟨Ao86, co86, eo86⟩ := Kd.R_slice HO218.out; subst eo86; obtain ⟨Ao87, co87, eo87⟩ := Kd.R_slice HO221.out; subst eo87) | ((with_reducible refine gate_callee (f := 9) rfl ?_); refine goesL_ (some 15) rfl rfl Try.func9 (by kernel_rfl) rfl #[.slice Ao86 y216.length co86, .slice Ao87 y219.length co87, .int .i64 0, .int .i64 7, .int .i64 0] rfl (by (try simp only [List.map_toArray, List.map_cons, List.map_nil]); first | done | rfl | (simp only [List.length_drop, List.length_take]; rfl)) ?_; (with_reducible refine (draw_Draws.calls k _ _ y216 _ _ y219 0 7 0 t222 t225 _ ?side1 ?side2 ?side3 ?side4 A1.out).mono ?_); (case side1 => repeat (first | exact (Kd.R_reads' HO218.out).2.2 | (with_reducible refine Kd.C_alloc ?_ _) | (with_reducible refine Kd.C_drewN ?_ _) | (with_reducible refine Kd.C_drew ?_))); (case side2 => exact (Kd.R_reads' HO218.out).2.1); (case side3 => repeat (first | exact (Kd.R_reads' HO221.out).2.2 | (with_reducible refine Kd.C_alloc ?_ _) | (with_reducible refine Kd.C_drewN ?_ _) | (with_reducible refine Kd.C_drew ?_))); (case side4 => exact (Kd.R_reads' HO221.out).2.1); rintro e w88 ⟨v223, rfl, ho0, hb⟩; refine ⟨_, rfl, ?_⟩; have n0_ := Aside0.mk (Kd.R_below (by (with_reducible repeat (first | apply Kd.R_alloc | apply Kd.R_drewN | apply Kd.R_drew)); exact HO218.out) hb); have n1_ := Aside0.mk (Kd.R_below (by (with_reducible repeat (first | apply Kd.R_alloc | apply Kd.R_drewN | apply Kd.R_drew)); exact HO221.out) hb); have n2_ := Aside0.mk (Kd.V_lower (Kd.V_mono (ok' := fun k_ => some k_ ≠ (.slice Ao86 y216.length co86 : Value).ownBlock ∧ some k_ ≠ (.slice Ao87 y219.length co87 : Value).ownBlock) ho0 (fun k_ hk_ => ⟨(Kd.fresh' (Kd.R_lt (by (with_reducible repeat (first | apply Kd.R_alloc | apply Kd.R_drewN | apply Kd.R_drew)); exact HO218.out)) k_ hk_), (Kd.fresh' (Kd.R_lt (by (with_reducible repeat (first | apply Kd.R_alloc | apply Kd.R_drewN | apply Kd.R_drew)); exact HO221.out)) k_ hk_)⟩)) (below_size (by repeat (first | (with_reducible first | exact HB.out | apply below_alloc | apply pw_below_drewN | apply below_drew1) | exact HB.out)))); have n3_ := Aside0.mk (below_step (by repeat (first | (with_reducible first | exact HB.out | apply below_alloc | apply pw_below_drewN | apply below_drew1) | exact HB.out)) hb); clear HO218; clear HO221; clear HB; have HO218 := n0_; have HO221 := n1_; have HO224 := n2_; have HB := n3_; clear n0_ n1_ n2_ n3_; (try clear hb); (try clear hb2); (try clear hk); (try clear hi); (try clear ho0); obtain ⟨Ao89, co89, eo89⟩ := Kd.V_slice HO224.out; subst eo89) | ((with_reducible refine gate_callee (f := 21) rfl ?_); refine goesL_ (some 20) rfl rfl Try.func21 (by kernel_rfl) rfl #[.slice Ao89 t222.length co89, .int .i64 6] rfl (by (try simp only [List.map_toArray, List.map_cons, List.map_nil]); first | done | rfl | (simp only [List.length_drop, List.length_take]; rfl)) ?_; (with_reducible refine (draw_Charge.calls k _ _ t222 6 t226 t229 _ ?side1 ?side2 A2.out).mono ?_); (case side1 => repeat (first | exact (Kd.V_reads' HO224.out).2.2 | (with_reducible refine Kd.C_alloc ?_ _) | (with_reducible refine Kd.C_drewN ?_ _) | (with_reducible refine Kd.C_drew ?_))); (case side2 => exact (Kd.V_reads' HO224.out).2.1); rintro e w90 ⟨v227, rfl, ho0, hb⟩; refine ⟨_, rfl, ?_⟩; have n0_ := Aside0.mk (Kd.R_below (by (with_reducible repeat (first | apply Kd.R_alloc | apply Kd.R_drewN | apply Kd.R_drew)); exact HO218.out) hb); have n1_ := Aside0.mk (Kd.R_below (by (with_reducible repeat (first | apply Kd.R_alloc | apply Kd.R_drewN | apply Kd.R_drew)); exact HO221.out) hb); have n2_ := Aside0.mk (Kd.V_below (by (with_reducible repeat (first | apply Kd.V_alloc | apply Kd.V_drewN | apply Kd.V_drew)); exact HO224.out) hb); have n3_ := Aside0.mk (Kd.V_lower (Kd.V_mono (ok' := fun k_ => some k_ ≠ (.slice Ao86 y216.length co86 : Value).ownBlock ∧ some k_ ≠ (.slice Ao87 y219.length co87 : Value).ownBlock) ho0 (fun k_ hk_ => ⟨(Kd.fresh' (Kd.R_lt (by (with_reducible repeat (first | apply Kd.R_alloc | apply Kd.R_drewN | apply Kd.R_drew)); exact HO218.out)) k_ hk_), (Kd.fresh' (Kd.R_lt (by (with_reducible repeat (first | apply Kd.R_alloc | apply Kd.R_drewN | apply Kd.R_drew)); exact HO221.out)) k_ hk_)⟩)) (below_size (by repeat (first | (with_reducible first | exact HB.out | apply below_alloc | apply pw_below_drewN | apply below_drew1) | exact HB.out)))); have n4_ := Aside0.mk (below_step (by repeat (first | (with_reducible first | exact HB.out | apply below_alloc | apply pw_below_drewN | apply below_drew1) | exact HB.out)) hb); clear HO218; clear HO221; clear HO224; clear HB; have HO218 := n0_; have HO221 := n1_; have HO224 := n2_; have HO228 := n3_; have HB := n4_; clear n0_ n1_ n2_ n3_ n4_; (try clear hb); (try clear hb2); (try clear hk); (try clear hi); (try clear ho0)) | ((with_reducible refine gate_dst (N := 29) rfl ?_); (try (refine gate_guard (by rfl) ?_; dsimp only)); refine Kd.R_lit k37 _ 37 ?hg (N := 29) ?hd (xs := ([(⟨1, 5⟩ : S37), (⟨0, 2⟩ : S37)] : List (S37))) (inner := [.int .i64 1, .int .i64 5, .int .i64 0, .int .i64 2]) (ok := fun _ => True) (okp := fun _ => True) ?hr ?hp (fun _ hk => hk) trivial (Below.refl _ _) (Nat.le_refl _) (by simp) ?_; (case hd => rfl); (case hg => rfl); (case hr => first | (go_simp; done) | (go_simp; rfl)); (case hp => exact (Reps.c2 (show Kd.M k37 _ _ _ (⟨1, 5⟩ : S37) [.int .i64 1, .int .i64 5] from (k37_mkM _ _ _ (⟨1, 5⟩ : S37) )) (Reps.c2 (show Kd.M k37 _ _ _ (⟨0, 2⟩ : S37) [.int .i64 0, .int .i64 2] from (k37_mkM _ _ _ (⟨0, 2⟩ : S37) )) (Reps.none _ _)))); intro v231 w91 ho92 hb hg_ hnew_; clear hg_ hnew_; (first | rw [← Ny230.out] at ho92 | (simp only [Int.reduceToNat] at ho92; rw [← Ny230.out] at ho92)); have n0_ := Aside0.mk (Kd.R_below (by (with_reducible repeat (first | apply Kd.R_alloc | apply Kd.R_drewN | apply Kd.R_drew)); exact HO218.out) hb); have n1_ := Aside0.mk (Kd.R_below (by (with_reducible repeat (first | apply Kd.R_alloc | apply Kd.R_drewN | apply Kd.R_drew)); exact HO221.out) hb); have n2_ := Aside0.mk (Kd.V_elder' (by (with_reducible repeat (first | apply Kd.V_alloc | apply Kd.V_drewN | apply Kd.V_drew)); exact HO224.out) (Kd.R_base ho92) hb); have n3_ := Aside0.mk (Kd.V_elder' (by (with_reducible repeat (first | apply Kd.V_alloc | apply Kd.V_drewN | apply Kd.V_drew)); exact HO228.out) (Kd.R_base ho92) hb); have n4_ := Aside0.mk (Kd.R_lower ho92 (below_size (by repeat (first | (with_reducible first | exact HB.out | apply below_alloc | apply pw_below_drewN | apply below_drew1) | exact HB.out)))); have n5_ := Aside0.mk (below_step (by repeat (first | (with_reducible first | exact HB.out | apply below_alloc | apply pw_below_drewN | apply below_drew1) | exact HB.out)) hb); clear HO218; clear HO221; clear HO224; clear HO228; clear HB; have HO218 := n0_; have HO221 := n1_; have HO224 := n2_; have HO228 := n3_; have HO232 := n4_; have HB := n5_; clear n0_ n1_ n2_ n3_ n4_ n5_; clear hb ho92; obtain ⟨Ao93, co93, eo93⟩ := Kd.R_slice HO232.out; subst eo93) | (go_at_call 12; (with_reducible refine (prebendref11_Alike.calls k _ _ t222 _ _ y230 true _ ?side1 ?side2 ?side3 ?side4 A4.out).mono ?_); (case side1 => repeat (first | exact (Kd.V_reads' HO224.out).2.2 | (with_reducible refine Kd.C_alloc ?_ _) | (with_reducible refine Kd.C_drewN ?_ _) | (with_reducible refine Kd.C_drew ?_))); (case side2 => exact (Kd.V_reads' HO224.out).2.1); (case side3 => repeat (first | exact (Kd.R_reads' HO232.out).2.2 | (with_reducible refine Kd.C_alloc ?_ _) | (with_reducible refine Kd.C_drewN ?_ _) | (with_reducible refine Kd.C_drew ?_))); (case side4 => exact (Kd.R_reads' HO232.out).2.1); rintro e w' ⟨rfl, ⟨nd, rfl⟩⟩) | ((with_reducible refine gate_dst (N := 40) rfl ?_); (try (refine gate_guard (by rfl) ?_; dsimp only)); refine Kd.R_lit k37 _ 37 ?hg (N := 40) ?hd (xs := ([(⟨1, 5⟩ : S37), (⟨0, 1⟩ : S37)] : List (S37))) (inner := [.int .i64 1, .int .i64 5, .int .i64 0, .int .i64 1]) (ok := fun _ => True) (okp := fun _ => True) ?hr ?hp (fun _ hk => hk) trivial (Below.refl _ _) (Nat.le_refl _) (by simp) ?_; (case hd => rfl); (case hg => rfl); (case hr => first | (go_simp; done) | (go_simp; rfl)); (case hp => exact (Reps.c2 (show Kd.M k37 _ _ _ (⟨1, 5⟩ : S37) [.int .i64 1, .int .i64 5] from (k37_mkM _ _ _ (⟨1, 5⟩ : S37) )) (Reps.c2 (show Kd.M k37 _ _ _ (⟨0, 1⟩ : S37) [.int .i64 0, .int .i64 1] from (k37_mkM _ _ _ (⟨0, 1⟩ : S37) )) (Reps.none _ _)))); intro v235 w94 ho95 hb hg_ hnew_; clear hg_ hnew_; (first | rw [← Ny234.out] at ho95 | (simp only [Int.reduceToNat] at ho95; rw [← Ny234.out] at ho95)); have n0_ := Aside0.mk (Kd.R_below (by (with_reducible repeat (first | apply Kd.R_alloc | apply Kd.R_drewN | apply Kd.R_drew)); exact HO218.out) hb); have n1_ := Aside0.mk (Kd.R_below (by (with_reducible repeat (first | apply Kd.R_alloc | apply Kd.R_drewN | apply Kd.R_drew)); exact HO221.out) hb); have n2_ := Aside0.mk (Kd.V_elder' (by (with_reducible repeat (first | apply Kd.V_alloc | apply Kd.V_drewN | apply Kd.V_drew)); exact HO224.out) (Kd.R_base ho95) hb); have n3_ := Aside0.mk (Kd.V_elder' (by (with_reducible repeat (first | apply Kd.V_alloc | apply Kd.V_drewN | apply Kd.V_drew)); exact HO228.out) (Kd.R_base ho95) hb); have n4_ := Aside0.mk (Kd.R_elder' (by (with_reducible repeat (first | apply Kd.R_alloc | apply Kd.R_drewN | apply Kd.R_drew)); exact HO232.out) (Kd.R_base ho95) hb); have n5_ := Aside0.mk (Kd.R_lower (Kd.R_new' ho95 (Kd.R_lt (by (with_reducible repeat (first | apply Kd.R_alloc | apply Kd.R_drewN | apply Kd.R_drew)); exact HO232.out))) (below_size (by repeat (first | (with_reducible first | exact HB.out | apply below_alloc | apply pw_below_drewN | apply below_drew1) | exact HB.out)))); have n6_ := Aside0.mk (below_step (by repeat (first | (with_reducible first | exact HB.out | apply below_alloc | apply pw_below_drewN | apply below_drew1) | exact HB.out)) hb); clear HO218; clear HO221; clear HO224; clear HO228; clear HO232; clear HB; have HO218 := n0_; have HO221 := n1_; have HO224 := n2_; have HO228 := n3_; have HO232 := n4_; have HO236 := n5_; have HB := n6_; clear n0_ n1_ n2_ n3_ n4_ n5_ n6_; clear hb ho95; obtain ⟨Ao96, co96, eo96⟩ := Kd.V_slice HO228.out; subst eo96; obtain ⟨Ao97, co97, eo97⟩ := Kd.R_slice HO236.out; subst eo97) | (go_at_call 12; (with_reducible refine (prebendref11_Alike.calls k _ _ t226 _ _ y234 true _ ?side1 ?side2 ?side3 ?side4 A7.out).mono ?_); (case side1 => repeat (first | exact (Kd.V_reads' HO228.out).2.2 | (with_reducible refine Kd.C_alloc ?_ _) | (with_reducible refine Kd.C_drewN ?_ _) | (with_reducible refine Kd.C_drew ?_))); (case side2 => exact (Kd.V_reads' HO228.out).2.1); (case side3 => repeat (first | exact (Kd.R_reads' HO236.out).2.2 | (with_reducible refine Kd.C_alloc ?_ _) | (with_reducible refine Kd.C_drewN ?_ _) | (with_reducible refine Kd.C_drew ?_))); (case side4 => exact (Kd.R_reads' HO236.out).2.1); rintro e w' ⟨rfl, ⟨nd, rfl⟩⟩) | (go_at_call 15; (with_reducible refine (draw_Lien.calls k _ _ t222 t238 _ ?side1 ?side2 A9.out).mono ?_); (case side1 => repeat (first | exact (Kd.V_reads' HO224.out).2.2 | (with_reducible refine Kd.C_alloc ?_ _) | (with_reducible refine Kd.C_drewN ?_ _) | (with_reducible refine Kd.C_drew ?_))); (case side2 => exact (Kd.V_reads' HO224.out).2.1); rintro e w98 ⟨v239, rfl, ho0, hb⟩; have n0_ := Aside0.mk (Kd.R_below (by (with_reducible repeat (first | apply Kd.R_alloc | apply Kd.R_drewN | apply Kd.R_drew)); exact HO218.out) hb); have n1_ := Aside0.mk (Kd.R_below (by (with_reducible repeat (first | apply Kd.R_alloc | apply Kd.R_drewN | apply Kd.R_drew)); exact HO221.out) hb); have n2_ := Aside0.mk (Kd.V_below (by (with_reducible repeat (first | apply Kd.V_alloc | apply Kd.V_drewN | apply Kd.V_drew)); exact HO224.out) hb); have n3_ := Aside0.mk (Kd.V_below (by (with_reducible repeat (first | apply Kd.V_alloc | apply Kd.V_drewN | apply Kd.V_drew)); exact HO228.out) hb); have n4_ := Aside0.mk (Kd.R_below (by (with_reducible repeat (first | apply Kd.R_alloc | apply Kd.R_drewN | apply Kd.R_drew)); exact HO232.out) hb); have n5_ := Aside0.mk (Kd.R_below (by (with_reducible repeat (first | apply Kd.R_alloc | apply Kd.R_drewN | apply Kd.R_drew)); exact HO236.out) hb); have n6_ := Aside0.mk (Kd.V_lower (Kd.V_mono (ok' := fun k_ => some k_ ≠ (.slice Ao86 y216.length co86 : Value).ownBlock ∧ some k_ ≠ (.slice Ao87 y219.length co87 : Value).ownBlock ∧ some k_ ≠ (.slice Ao93 y230.length co93 : Value).ownBlock ∧ some k_ ≠ (.slice Ao97 y234.length co97 : Value).ownBlock) ho0 (fun k_ hk_ => ⟨(Kd.fresh' (Kd.R_lt (by (with_reducible repeat (first | apply Kd.R_alloc | apply Kd.R_drewN | apply Kd.R_drew)); exact HO218.out)) k_ hk_), (Kd.fresh' (Kd.R_lt (by (with_reducible repeat (first | apply Kd.R_alloc | apply Kd.R_drewN | apply Kd.R_drew)); exact HO221.out)) k_ hk_), (Kd.fresh' (Kd.R_lt (by (with_reducible repeat (first | apply Kd.R_alloc | apply Kd.R_drewN | apply Kd.R_drew)); exact HO232.out)) k_ hk_), (Kd.fresh' (Kd.R_lt (by (with_reducible repeat (first | apply Kd.R_alloc | apply Kd.R_drewN | apply Kd.R_drew)); exact HO236.out)) k_ hk_)⟩)) (below_size (by repeat (first | (with_reducible first | exact HB.out | apply below_alloc | apply pw_below_drewN | apply below_drew1) | exact HB.out)))); have n7_ := Aside0.mk (below_step (by repeat (first | (with_reducible first | exact HB.out | apply below_alloc | apply pw_below_drewN | apply below_drew1) | exact HB.out)) hb); clear HO218; clear HO221; clear HO224; clear HO228; clear HO232; clear HO236; clear HB; have HO218 := n0_; have HO221 := n1_; have HO224 := n2_; have HO228 := n3_; have HO232 := n4_; have HO236 := n5_; have HO240 := n6_; have HB := n7_; clear n0_ n1_ n2_ n3_ n4_ n5_ n6_ n7_; (try clear hb); (try clear hb2); (try clear hk); (try clear hi); (try clear ho0); obtain ⟨Ao99, co99, eo99⟩ := Kd.V_slice HO240.out; subst eo99))
            go_ret
            exact ⟨by first | rfl | (simp [errW_none, errW_some] <;> rfl) | (simp [*, errW_none, errW_some] <;> rfl), by repeat (first | (with_reducible first | exact HB.out | apply below_alloc | apply pw_below_drewN | apply below_drew1) | exact HB.out)⟩
        · replace c8 := Bool.eq_false_iff.mpr c8
          subst c8
          have H1 : (some false) = some r := by rw [if_neg (show ¬ (false = true) by decide)] at H; exact H
          clear H
          have H := H1
          clear H1
          obtain rfl := Option.some.inj H
          go_enter Try.func11, Try.ntmps11
          go_wp2_with (first | ((with_reducible refine gate_dst (N := 8) rfl ?_); (try (refine gate_guard (by rfl) ?_; dsimp only)); refine Kd.R_lit k62 _ 62 ?hg (N := 8) ?hd (xs := ([(⟨(⟨#[97]⟩ : ByteArray), (-1), 0⟩ : S62)] : List (S62))) (inner := [.string (⟨#[97]⟩ : ByteArray), .int .i64 (-1), .int .i64 0]) (ok := fun _ => True) (okp := fun _ => True) ?hr ?hp (fun _ hk => hk) trivial (Below.refl _ _) (Nat.le_refl _) (by simp) ?_; (case hd => rfl); (case hg => rfl); (case hr => first | (go_simp; done) | (go_simp; rfl)); (case hp => exact (Reps.c3 (show Kd.M k62 _ _ _ (⟨(⟨#[97]⟩ : ByteArray), (-1), 0⟩ : S62) [.string (⟨#[97]⟩ : ByteArray), .int .i64 (-1), .int .i64 0] from (k62_mkM _ _ _ (⟨(⟨#[97]⟩ : ByteArray), (-1), 0⟩ : S62) )) (Reps.none _ _))); intro v217 w100 ho101 hb hg_ hnew_; clear hg_ hnew_; (first | rw [← Ny216.out] at ho101 | (simp only [Int.reduceToNat] at ho101; rw [← Ny216.out] at ho101)); have n0_ := Aside0.mk (Kd.R_lower ho101 (below_size (by repeat (first | (with_reducible first | exact HB.out | apply below_alloc | apply pw_below_drewN | apply below_drew1) | exact HB.out)))); have n1_ := Aside0.mk (below_step (by repeat (first | (with_reducible first | exact HB.out | apply below_alloc | apply pw_below_drewN | apply below_drew1) | exact HB.out)) hb); clear HB; have HO218 := n0_; have HB := n1_; clear n0_ n1_; clear hb ho101) | ((with_reducible refine gate_dst (N := 11) rfl ?_); (try (refine gate_guard (by rfl) ?_; dsimp only)); refine Kd.R_lit k46 _ 46 ?hg (N := 11) ?hd (xs := ([(⟨0, 0, 9, 5, 0, 0⟩ : S46), (⟨0, 0, 4, 5, 0, 0⟩ : S46)] : List (S46))) (inner := [.int .i64 0, .int .i64 0, .int .i64 9, .int .i64 5, .int .i64 0, .int .i64 0, .int .i64 0, .int .i64 0, .int .i64 4, .int .i64 5, .int .i64 0, .int .i64 0]) (ok := fun _ => True) (okp := fun _ => True) ?hr ?hp (fun _ hk => hk) trivial (Below.refl _ _) (Nat.le_refl _) (by simp) ?_; (case hd => rfl); (case hg => rfl); (case hr => first | (go_simp; done) | (go_simp; rfl)); (case hp => exact (Reps.c6 (show Kd.M k46 _ _ _ (⟨0, 0, 9, 5, 0, 0⟩ : S46) [.int .i64 0, .int .i64 0, .int .i64 9, .int .i64 5, .int .i64 0, .int .i64 0] from (k46_mkM _ _ _ (⟨0, 0, 9, 5, 0, 0⟩ : S46) )) (Reps.c6 (show Kd.M k46 _ _ _ (⟨0, 0, 4, 5, 0, 0⟩ : S46) [.int .i64 0, .int .i64 0, .int .i64 4, .int .i64 5, .int .i64 0, .int .i64 0] from (k46_mkM _ _ _ (⟨0, 0, 4, 5, 0, 0⟩ : S46) )) (Reps.none _ _)))); intro v220 w102 ho103 hb hg_ hnew_; clear hg_ hnew_; (first | rw [← Ny219.out] at ho103 | (simp only [Int.reduceToNat] at ho103; rw [← Ny219.out] at ho103)); have n0_ := Aside0.mk (Kd.R_below (by (with_reducible repeat (first | apply Kd.R_alloc | apply Kd.R_drewN | apply Kd.R_drew)); exact HO218.out) hb); have n1_ := Aside0.mk (Kd.R_lower ho103 (below_size (by repeat (first | (with_reducible first | exact HB.out | apply below_alloc | apply pw_below_drewN | apply below_drew1) | exact HB.out)))); have n2_ := Aside0.mk (below_step (by repeat (first | (with_reducible first | exact HB.out | apply below_alloc | apply pw_below_drewN | apply below_drew1) | exact HB.out)) hb); clear HO218; clear HB; have HO218 := n0_; have HO221 := n1_; have HB := n2_; clear n0_ n1_ n2_; clear hb ho103; obtain ⟨Ao104, co104, eo104⟩ := Kd.R_slice HO218.out; subst eo104; obtain ⟨Ao105, co105, eo105⟩ := Kd.R_slice HO221.out; subst eo105) | ((with_reducible refine gate_callee (f := 9) rfl ?_); refine goesL_ (some 15) rfl rfl Try.func9 (by kernel_rfl) rfl #[.slice Ao104 y216.length co104, .slice Ao105 y219.length co105, .int .i64 0, .int .i64 7, .int .i64 0] rfl (by (try simp only [List.map_toArray, List.map_cons, List.map_nil]); first | done | rfl | (simp only [List.length_drop, List.length_take]; rfl)) ?_; (with_reducible refine (draw_Draws.calls k _ _ y216 _ _ y219 0 7 0 t222 t225 _ ?side1 ?side2 ?side3 ?side4 A1.out).mono ?_); (case side1 => repeat (first | exact (Kd.R_reads' HO218.out).2.2 | (with_reducible refine Kd.C_alloc ?_ _) | (with_reducible refine Kd.C_drewN ?_ _) | (with_reducible refine Kd.C_drew ?_))); (case side2 => exact (Kd.R_reads' HO218.out).2.1); (case side3 => repeat (first | exact (Kd.R_reads' HO221.out).2.2 | (with_reducible refine Kd.C_alloc ?_ _) | (with_reducible refine Kd.C_drewN ?_ _) | (with_reducible refine Kd.C_drew ?_))); (case side4 => exact (Kd.R_reads' HO221.out).2.1); rintro e w106 ⟨v223, rfl, ho0, hb⟩; refine ⟨_, rfl, ?_⟩; have n0_ := Aside0.mk (Kd.R_below (by (with_reducible repeat (first | apply Kd.R_alloc | apply Kd.R_drewN | apply Kd.R_drew)); exact HO218.out) hb); have n1_ := Aside0.mk (Kd.R_below (by (with_reducible repeat (first | apply Kd.R_alloc | apply Kd.R_drewN | apply Kd.R_drew)); exact HO221.out) hb); have n2_ := Aside0.mk (Kd.V_lower (Kd.V_mono (ok' := fun k_ => some k_ ≠ (.slice Ao104 y216.length co104 : Value).ownBlock ∧ some k_ ≠ (.slice Ao105 y219.length co105 : Value).ownBlock) ho0 (fun k_ hk_ => ⟨(Kd.fresh' (Kd.R_lt (by (with_reducible repeat (first | apply Kd.R_alloc | apply Kd.R_drewN | apply Kd.R_drew)); exact HO218.out)) k_ hk_), (Kd.fresh' (Kd.R_lt (by (with_reducible repeat (first | apply Kd.R_alloc | apply Kd.R_drewN | apply Kd.R_drew)); exact HO221.out)) k_ hk_)⟩)) (below_size (by repeat (first | (with_reducible first | exact HB.out | apply below_alloc | apply pw_below_drewN | apply below_drew1) | exact HB.out)))); have n3_ := Aside0.mk (below_step (by repeat (first | (with_reducible first | exact HB.out | apply below_alloc | apply pw_below_drewN | apply below_drew1) | exact HB.out)) hb); clear HO218; clear HO221; clear HB; have HO218 := n0_; have HO221 := n1_; have HO224 := n2_; have HB := n3_; clear n0_ n1_ n2_ n3_; (try clear hb); (try clear hb2); (try clear hk); (try clear hi); (try clear ho0); obtain ⟨Ao107, co107, eo107⟩ := Kd.V_slice HO224.out; subst eo107) | ((with_reducible refine gate_callee (f := 21) rfl ?_); refine goesL_ (some 20) rfl rfl Try.func21 (by kernel_rfl) rfl #[.slice Ao107 t222.length co107, .int .i64 6] rfl (by (try simp only [List.map_toArray, List.map_cons, List.map_nil]); first | done | rfl | (simp only [List.length_drop, List.length_take]; rfl)) ?_; (with_reducible refine (draw_Charge.calls k _ _ t222 6 t226 t229 _ ?side1 ?side2 A2.out).mono ?_); (case side1 => repeat (first | exact (Kd.V_reads' HO224.out).2.2 | (with_reducible refine Kd.C_alloc ?_ _) | (with_reducible refine Kd.C_drewN ?_ _) | (with_reducible refine Kd.C_drew ?_))); (case side2 => exact (Kd.V_reads' HO224.out).2.1); rintro e w108 ⟨v227, rfl, ho0, hb⟩; refine ⟨_, rfl, ?_⟩; have n0_ := Aside0.mk (Kd.R_below (by (with_reducible repeat (first | apply Kd.R_alloc | apply Kd.R_drewN | apply Kd.R_drew)); exact HO218.out) hb); have n1_ := Aside0.mk (Kd.R_below (by (with_reducible repeat (first | apply Kd.R_alloc | apply Kd.R_drewN | apply Kd.R_drew)); exact HO221.out) hb); have n2_ := Aside0.mk (Kd.V_below (by (with_reducible repeat (first | apply Kd.V_alloc | apply Kd.V_drewN | apply Kd.V_drew)); exact HO224.out) hb); have n3_ := Aside0.mk (Kd.V_lower (Kd.V_mono (ok' := fun k_ => some k_ ≠ (.slice Ao104 y216.length co104 : Value).ownBlock ∧ some k_ ≠ (.slice Ao105 y219.length co105 : Value).ownBlock) ho0 (fun k_ hk_ => ⟨(Kd.fresh' (Kd.R_lt (by (with_reducible repeat (first | apply Kd.R_alloc | apply Kd.R_drewN | apply Kd.R_drew)); exact HO218.out)) k_ hk_), (Kd.fresh' (Kd.R_lt (by (with_reducible repeat (first | apply Kd.R_alloc | apply Kd.R_drewN | apply Kd.R_drew)); exact HO221.out)) k_ hk_)⟩)) (below_size (by repeat (first | (with_reducible first | exact HB.out | apply below_alloc | apply pw_below_drewN | apply below_drew1) | exact HB.out)))); have n4_ := Aside0.mk (below_step (by repeat (first | (with_reducible first | exact HB.out | apply below_alloc | apply pw_below_drewN | apply below_drew1) | exact HB.out)) hb); clear HO218; clear HO221; clear HO224; clear HB; have HO218 := n0_; have HO221 := n1_; have HO224 := n2_; have HO228 := n3_; have HB := n4_; clear n0_ n1_ n2_ n3_ n4_; (try clear hb); (try clear hb2); (try clear hk); (try clear hi); (try clear ho0)) | ((with_reducible refine gate_dst (N := 29) rfl ?_); (try (refine gate_guard (by rfl) ?_; dsimp only)); refine Kd.R_lit k37 _ 37 ?hg (N := 29) ?hd (xs := ([(⟨1, 5⟩ : S37), (⟨0, 2⟩ : S37)] : List (S37))) (inner := [.int .i64 1, .int .i64 5, .int .i64 0, .int .i64 2]) (ok := fun _ => True) (okp := fun _ => True) ?hr ?hp (fun _ hk => hk) trivial (Below.refl _ _) (Nat.le_refl _) (by simp) ?_; (case hd => rfl); (case hg => rfl); (case hr => first | (go_simp; done) | (go_simp; rfl)); (case hp => exact (Reps.c2 (show Kd.M k37 _ _ _ (⟨1, 5⟩ : S37) [.int .i64 1, .int .i64 5] from (k37_mkM _ _ _ (⟨1, 5⟩ : S37) )) (Reps.c2 (show Kd.M k37 _ _ _ (⟨0, 2⟩ : S37) [.int .i64 0, .int .i64 2] from (k37_mkM _ _ _ (⟨0, 2⟩ : S37) )) (Reps.none _ _)))); intro v231 w109 ho110 hb hg_ hnew_; clear hg_ hnew_; (first | rw [← Ny230.out] at ho110 | (simp only [Int.reduceToNat] at ho110; rw [← Ny230.out] at ho110)); have n0_ := Aside0.mk (Kd.R_below (by (with_reducible repeat (first | apply Kd.R_alloc | apply Kd.R_drewN | apply Kd.R_drew)); exact HO218.out) hb); have n1_ := Aside0.mk (Kd.R_below (by (with_reducible repeat (first | apply Kd.R_alloc | apply Kd.R_drewN | apply Kd.R_drew)); exact HO221.out) hb); have n2_ := Aside0.mk (Kd.V_elder' (by (with_reducible repeat (first | apply Kd.V_alloc | apply Kd.V_drewN | apply Kd.V_drew)); exact HO224.out) (Kd.R_base ho110) hb); have n3_ := Aside0.mk (Kd.V_elder' (by (with_reducible repeat (first | apply Kd.V_alloc | apply Kd.V_drewN | apply Kd.V_drew)); exact HO228.out) (Kd.R_base ho110) hb); have n4_ := Aside0.mk (Kd.R_lower ho110 (below_size (by repeat (first | (with_reducible first | exact HB.out | apply below_alloc | apply pw_below_drewN | apply below_drew1) | exact HB.out)))); have n5_ := Aside0.mk (below_step (by repeat (first | (with_reducible first | exact HB.out | apply below_alloc | apply pw_below_drewN | apply below_drew1) | exact HB.out)) hb); clear HO218; clear HO221; clear HO224; clear HO228; clear HB; have HO218 := n0_; have HO221 := n1_; have HO224 := n2_; have HO228 := n3_; have HO232 := n4_; have HB := n5_; clear n0_ n1_ n2_ n3_ n4_ n5_; clear hb ho110; obtain ⟨Ao111, co111, eo111⟩ := Kd.R_slice HO232.out; subst eo111) | (go_at_call 12; (with_reducible refine (prebendref11_Alike.calls k _ _ t222 _ _ y230 true _ ?side1 ?side2 ?side3 ?side4 A4.out).mono ?_); (case side1 => repeat (first | exact (Kd.V_reads' HO224.out).2.2 | (with_reducible refine Kd.C_alloc ?_ _) | (with_reducible refine Kd.C_drewN ?_ _) | (with_reducible refine Kd.C_drew ?_))); (case side2 => exact (Kd.V_reads' HO224.out).2.1); (case side3 => repeat (first | exact (Kd.R_reads' HO232.out).2.2 | (with_reducible refine Kd.C_alloc ?_ _) | (with_reducible refine Kd.C_drewN ?_ _) | (with_reducible refine Kd.C_drew ?_))); (case side4 => exact (Kd.R_reads' HO232.out).2.1); rintro e w' ⟨rfl, ⟨nd, rfl⟩⟩) | ((with_reducible refine gate_dst (N := 40) rfl ?_); (try (refine gate_guard (by rfl) ?_; dsimp only)); refine Kd.R_lit k37 _ 37 ?hg (N := 40) ?hd (xs := ([(⟨1, 5⟩ : S37), (⟨0, 1⟩ : S37)] : List (S37))) (inner := [.int .i64 1, .int .i64 5, .int .i64 0, .int .i64 1]) (ok := fun _ => True) (okp := fun _ => True) ?hr ?hp (fun _ hk => hk) trivial (Below.refl _ _) (Nat.le_refl _) (by simp) ?_; (case hd => rfl); (case hg => rfl); (case hr => first | (go_simp; done) | (go_simp; rfl)); (case hp => exact (Reps.c2 (show Kd.M k37 _ _ _ (⟨1, 5⟩ : S37) [.int .i64 1, .int .i64 5] from (k37_mkM _ _ _ (⟨1, 5⟩ : S37) )) (Reps.c2 (show Kd.M k37 _ _ _ (⟨0, 1⟩ : S37) [.int .i64 0, .int .i64 1] from (k37_mkM _ _ _ (⟨0, 1⟩ : S37) )) (Reps.none _ _)))); intro v235 w112 ho113 hb hg_ hnew_; clear hg_ hnew_; (first | rw [← Ny234.out] at ho113 | (simp only [Int.reduceToNat] at ho113; rw [← Ny234.out] at ho113)); have n0_ := Aside0.mk (Kd.R_below (by (with_reducible repeat (first | apply Kd.R_alloc | apply Kd.R_drewN | apply Kd.R_drew)); exact HO218.out) hb); have n1_ := Aside0.mk (Kd.R_below (by (with_reducible repeat (first | apply Kd.R_alloc | apply Kd.R_drewN | apply Kd.R_drew)); exact HO221.out) hb); have n2_ := Aside0.mk (Kd.V_elder' (by (with_reducible repeat (first | apply Kd.V_alloc | apply Kd.V_drewN | apply Kd.V_drew)); exact HO224.out) (Kd.R_base ho113) hb); have n3_ := Aside0.mk (Kd.V_elder' (by (with_reducible repeat (first | apply Kd.V_alloc | apply Kd.V_drewN | apply Kd.V_drew)); exact HO228.out) (Kd.R_base ho113) hb); have n4_ := Aside0.mk (Kd.R_elder' (by (with_reducible repeat (first | apply Kd.R_alloc | apply Kd.R_drewN | apply Kd.R_drew)); exact HO232.out) (Kd.R_base ho113) hb); have n5_ := Aside0.mk (Kd.R_lower (Kd.R_new' ho113 (Kd.R_lt (by (with_reducible repeat (first | apply Kd.R_alloc | apply Kd.R_drewN | apply Kd.R_drew)); exact HO232.out))) (below_size (by repeat (first | (with_reducible first | exact HB.out | apply below_alloc | apply pw_below_drewN | apply below_drew1) | exact HB.out)))); have n6_ := Aside0.mk (below_step (by repeat (first | (with_reducible first | exact HB.out | apply below_alloc | apply pw_below_drewN | apply below_drew1) | exact HB.out)) hb); clear HO218; clear HO221; clear HO224; clear HO228; clear HO232; clear HB; have HO218 := n0_; have HO221 := n1_; have HO224 := n2_; have HO228 := n3_; have HO232 := n4_; have HO236 := n5_; have HB := n6_; clear n0_ n1_ n2_ n3_ n4_ n5_ n6_; clear hb ho113; obtain ⟨Ao114, co114, eo114⟩ := Kd.V_slice HO228.out; subst eo114; obtain ⟨Ao115, co115, eo115⟩ := Kd.R_slice HO236.out; subst eo115) | (go_at_call 12; (with_reducible refine (prebendref11_Alike.calls k _ _ t226 _ _ y234 false _ ?side1 ?side2 ?side3 ?side4 A7.out).mono ?_); (case side1 => repeat (first | exact (Kd.V_reads' HO228.out).2.2 | (with_reducible refine Kd.C_alloc ?_ _) | (with_reducible refine Kd.C_drewN ?_ _) | (with_reducible refine Kd.C_drew ?_))); (case side2 => exact (Kd.V_reads' HO228.out).2.1); (case side3 => repeat (first | exact (Kd.R_reads' HO236.out).2.2 | (with_reducible refine Kd.C_alloc ?_ _) | (with_reducible refine Kd.C_drewN ?_ _) | (with_reducible refine Kd.C_drew ?_))); (case side4 => exact (Kd.R_reads' HO236.out).2.1); rintro e w' ⟨rfl, ⟨nd, rfl⟩⟩))
          go_ret
          exact ⟨by first | rfl | (simp [errW_none, errW_some] <;> rfl) | (simp [*, errW_none, errW_some] <;> rfl), by repeat (first | (with_reducible first | exact HB.out | apply below_alloc | apply pw_below_drewN | apply below_drew1) | exact HB.out)⟩
      · rw [if_neg c6] at H
        have c6b0 : (t229 == 0) = false := beq_eq_false_iff_ne.mpr c6
        have c6b1 : (t229 != 0) = true := bne_iff_ne.mpr c6
        obtain rfl := Option.some.inj H
        go_enter Try.func11, Try.ntmps11
        go_wp2_with (first | ((with_reducible refine gate_dst (N := 8) rfl ?_); (try (refine gate_guard (by rfl) ?_; dsimp only)); refine Kd.R_lit k62 _ 62 ?hg (N := 8) ?hd (xs := ([(⟨(⟨#[97]⟩ : ByteArray), (-1), 0⟩ : S62)] : List (S62))) (inner := [.string (⟨#[97]⟩ : ByteArray), .int .i64 (-1), .int .i64 0]) (ok := fun _ => True) (okp := fun _ => True) ?hr ?hp (fun _ hk => hk) trivial (Below.refl _ _) (Nat.le_refl _) (by simp) ?_; (case hd => rfl); (case hg => rfl); (case hr => first | (go_simp; done) | (go_simp; rfl)); (case hp => exact (Reps.c3 (show Kd.M k62 _ _ _ (⟨(⟨#[97]⟩ : ByteArray), (-1), 0⟩ : S62) [.string (⟨#[97]⟩ : ByteArray), .int .i64 (-1), .int .i64 0] from (k62_mkM _ _ _ (⟨(⟨#[97]⟩ : ByteArray), (-1), 0⟩ : S62) )) (Reps.none _ _))); intro v217 w116 ho117 hb hg_ hnew_; clear hg_ hnew_; (first | rw [← Ny216.out] at ho117 | (simp only [Int.reduceToNat] at ho117; rw [← Ny216.out] at ho117)); have n0_ := Aside0.mk (Kd.R_lower ho117 (below_size (by repeat (first | (with_reducible first | exact HB.out | apply below_alloc | apply pw_below_drewN | apply below_drew1) | exact HB.out)))); have n1_ := Aside0.mk (below_step (by repeat (first | (with_reducible first | exact HB.out | apply below_alloc | apply pw_below_drewN | apply below_drew1) | exact HB.out)) hb); clear HB; have HO218 := n0_; have HB := n1_; clear n0_ n1_; clear hb ho117) | ((with_reducible refine gate_dst (N := 11) rfl ?_); (try (refine gate_guard (by rfl) ?_; dsimp only)); refine Kd.R_lit k46 _ 46 ?hg (N := 11) ?hd (xs := ([(⟨0, 0, 9, 5, 0, 0⟩ : S46), (⟨0, 0, 4, 5, 0, 0⟩ : S46)] : List (S46))) (inner := [.int .i64 0, .int .i64 0, .int .i64 9, .int .i64 5, .int .i64 0, .int .i64 0, .int .i64 0, .int .i64 0, .int .i64 4, .int .i64 5, .int .i64 0, .int .i64 0]) (ok := fun _ => True) (okp := fun _ => True) ?hr ?hp (fun _ hk => hk) trivial (Below.refl _ _) (Nat.le_refl _) (by simp) ?_; (case hd => rfl); (case hg => rfl); (case hr => first | (go_simp; done) | (go_simp; rfl)); (case hp => exact (Reps.c6 (show Kd.M k46 _ _ _ (⟨0, 0, 9, 5, 0, 0⟩ : S46) [.int .i64 0, .int .i64 0, .int .i64 9, .int .i64 5, .int .i64 0, .int .i64 0] from (k46_mkM _ _ _ (⟨0, 0, 9, 5, 0, 0⟩ : S46) )) (Reps.c6 (show Kd.M k46 _ _ _ (⟨0, 0, 4, 5, 0, 0⟩ : S46) [.int .i64 0, .int .i64 0, .int .i64 4, .int .i64 5, .int .i64 0, .int .i64 0] from (k46_mkM _ _ _ (⟨0, 0, 4, 5, 0, 0⟩ : S46) )) (Reps.none _ _)))); intro v220 w118 ho119 hb hg_ hnew_; clear hg_ hnew_; (first | rw [← Ny219.out] at ho119 | (simp only [Int.reduceToNat] at ho119; rw [← Ny219.out] at ho119)); have n0_ := Aside0.mk (Kd.R_below (by (with_reducible repeat (first | apply Kd.R_alloc | apply Kd.R_drewN | apply Kd.R_drew)); exact HO218.out) hb); have n1_ := Aside0.mk (Kd.R_lower ho119 (below_size (by repeat (first | (with_reducible first | exact HB.out | apply below_alloc | apply pw_below_drewN | apply below_drew1) | exact HB.out)))); have n2_ := Aside0.mk (below_step (by repeat (first | (with_reducible first | exact HB.out | apply below_alloc | apply pw_below_drewN | apply below_drew1) | exact HB.out)) hb); clear HO218; clear HB; have HO218 := n0_; have HO221 := n1_; have HB := n2_; clear n0_ n1_ n2_; clear hb ho119; obtain ⟨Ao120, co120, eo120⟩ := Kd.R_slice HO218.out; subst eo120; obtain ⟨Ao121, co121, eo121⟩ := Kd.R_slice HO221.out; subst eo121) | ((with_reducible refine gate_callee (f := 9) rfl ?_); refine goesL_ (some 15) rfl rfl Try.func9 (by kernel_rfl) rfl #[.slice Ao120 y216.length co120, .slice Ao121 y219.length co121, .int .i64 0, .int .i64 7, .int .i64 0] rfl (by (try simp only [List.map_toArray, List.map_cons, List.map_nil]); first | done | rfl | (simp only [List.length_drop, List.length_take]; rfl)) ?_; (with_reducible refine (draw_Draws.calls k _ _ y216 _ _ y219 0 7 0 t222 t225 _ ?side1 ?side2 ?side3 ?side4 A1.out).mono ?_); (case side1 => repeat (first | exact (Kd.R_reads' HO218.out).2.2 | (with_reducible refine Kd.C_alloc ?_ _) | (with_reducible refine Kd.C_drewN ?_ _) | (with_reducible refine Kd.C_drew ?_))); (case side2 => exact (Kd.R_reads' HO218.out).2.1); (case side3 => repeat (first | exact (Kd.R_reads' HO221.out).2.2 | (with_reducible refine Kd.C_alloc ?_ _) | (with_reducible refine Kd.C_drewN ?_ _) | (with_reducible refine Kd.C_drew ?_))); (case side4 => exact (Kd.R_reads' HO221.out).2.1); rintro e w122 ⟨v223, rfl, ho0, hb⟩; refine ⟨_, rfl, ?_⟩; have n0_ := Aside0.mk (Kd.R_below (by (with_reducible repeat (first | apply Kd.R_alloc | apply Kd.R_drewN | apply Kd.R_drew)); exact HO218.out) hb); have n1_ := Aside0.mk (Kd.R_below (by (with_reducible repeat (first | apply Kd.R_alloc | apply Kd.R_drewN | apply Kd.R_drew)); exact HO221.out) hb); have n2_ := Aside0.mk (Kd.V_lower (Kd.V_mono (ok' := fun k_ => some k_ ≠ (.slice Ao120 y216.length co120 : Value).ownBlock ∧ some k_ ≠ (.slice Ao121 y219.length co121 : Value).ownBlock) ho0 (fun k_ hk_ => ⟨(Kd.fresh' (Kd.R_lt (by (with_reducible repeat (first | apply Kd.R_alloc | apply Kd.R_drewN | apply Kd.R_drew)); exact HO218.out)) k_ hk_), (Kd.fresh' (Kd.R_lt (by (with_reducible repeat (first | apply Kd.R_alloc | apply Kd.R_drewN | apply Kd.R_drew)); exact HO221.out)) k_ hk_)⟩)) (below_size (by repeat (first | (with_reducible first | exact HB.out | apply below_alloc | apply pw_below_drewN | apply below_drew1) | exact HB.out)))); have n3_ := Aside0.mk (below_step (by repeat (first | (with_reducible first | exact HB.out | apply below_alloc | apply pw_below_drewN | apply below_drew1) | exact HB.out)) hb); clear HO218; clear HO221; clear HB; have HO218 := n0_; have HO221 := n1_; have HO224 := n2_; have HB := n3_; clear n0_ n1_ n2_ n3_; (try clear hb); (try clear hb2); (try clear hk); (try clear hi); (try clear ho0); obtain ⟨Ao123, co123, eo123⟩ := Kd.V_slice HO224.out; subst eo123) | ((with_reducible refine gate_callee (f := 21) rfl ?_); refine goesL_ (some 20) rfl rfl Try.func21 (by kernel_rfl) rfl #[.slice Ao123 t222.length co123, .int .i64 6] rfl (by (try simp only [List.map_toArray, List.map_cons, List.map_nil]); first | done | rfl | (simp only [List.length_drop, List.length_take]; rfl)) ?_; (with_reducible refine (draw_Charge.calls k _ _ t222 6 t226 t229 _ ?side1 ?side2 A2.out).mono ?_); (case side1 => repeat (first | exact (Kd.V_reads' HO224.out).2.2 | (with_reducible refine Kd.C_alloc ?_ _) | (with_reducible refine Kd.C_drewN ?_ _) | (with_reducible refine Kd.C_drew ?_))); (case side2 => exact (Kd.V_reads' HO224.out).2.1); rintro e w124 ⟨v227, rfl, ho0, hb⟩; refine ⟨_, rfl, ?_⟩; have n0_ := Aside0.mk (Kd.R_below (by (with_reducible repeat (first | apply Kd.R_alloc | apply Kd.R_drewN | apply Kd.R_drew)); exact HO218.out) hb); have n1_ := Aside0.mk (Kd.R_below (by (with_reducible repeat (first | apply Kd.R_alloc | apply Kd.R_drewN | apply Kd.R_drew)); exact HO221.out) hb); have n2_ := Aside0.mk (Kd.V_below (by (with_reducible repeat (first | apply Kd.V_alloc | apply Kd.V_drewN | apply Kd.V_drew)); exact HO224.out) hb); have n3_ := Aside0.mk (Kd.V_lower (Kd.V_mono (ok' := fun k_ => some k_ ≠ (.slice Ao120 y216.length co120 : Value).ownBlock ∧ some k_ ≠ (.slice Ao121 y219.length co121 : Value).ownBlock) ho0 (fun k_ hk_ => ⟨(Kd.fresh' (Kd.R_lt (by (with_reducible repeat (first | apply Kd.R_alloc | apply Kd.R_drewN | apply Kd.R_drew)); exact HO218.out)) k_ hk_), (Kd.fresh' (Kd.R_lt (by (with_reducible repeat (first | apply Kd.R_alloc | apply Kd.R_drewN | apply Kd.R_drew)); exact HO221.out)) k_ hk_)⟩)) (below_size (by repeat (first | (with_reducible first | exact HB.out | apply below_alloc | apply pw_below_drewN | apply below_drew1) | exact HB.out)))); have n4_ := Aside0.mk (below_step (by repeat (first | (with_reducible first | exact HB.out | apply below_alloc | apply pw_below_drewN | apply below_drew1) | exact HB.out)) hb); clear HO218; clear HO221; clear HO224; clear HB; have HO218 := n0_; have HO221 := n1_; have HO224 := n2_; have HO228 := n3_; have HB := n4_; clear n0_ n1_ n2_ n3_ n4_; (try clear hb); (try clear hb2); (try clear hk); (try clear hi); (try clear ho0)) | ((with_reducible refine gate_dst (N := 29) rfl ?_); (try (refine gate_guard (by rfl) ?_; dsimp only)); refine Kd.R_lit k37 _ 37 ?hg (N := 29) ?hd (xs := ([(⟨1, 5⟩ : S37), (⟨0, 2⟩ : S37)] : List (S37))) (inner := [.int .i64 1, .int .i64 5, .int .i64 0, .int .i64 2]) (ok := fun _ => True) (okp := fun _ => True) ?hr ?hp (fun _ hk => hk) trivial (Below.refl _ _) (Nat.le_refl _) (by simp) ?_; (case hd => rfl); (case hg => rfl); (case hr => first | (go_simp; done) | (go_simp; rfl)); (case hp => exact (Reps.c2 (show Kd.M k37 _ _ _ (⟨1, 5⟩ : S37) [.int .i64 1, .int .i64 5] from (k37_mkM _ _ _ (⟨1, 5⟩ : S37) )) (Reps.c2 (show Kd.M k37 _ _ _ (⟨0, 2⟩ : S37) [.int .i64 0, .int .i64 2] from (k37_mkM _ _ _ (⟨0, 2⟩ : S37) )) (Reps.none _ _)))); intro v231 w125 ho126 hb hg_ hnew_; clear hg_ hnew_; (first | rw [← Ny230.out] at ho126 | (simp only [Int.reduceToNat] at ho126; rw [← Ny230.out] at ho126)); have n0_ := Aside0.mk (Kd.R_below (by (with_reducible repeat (first | apply Kd.R_alloc | apply Kd.R_drewN | apply Kd.R_drew)); exact HO218.out) hb); have n1_ := Aside0.mk (Kd.R_below (by (with_reducible repeat (first | apply Kd.R_alloc | apply Kd.R_drewN | apply Kd.R_drew)); exact HO221.out) hb); have n2_ := Aside0.mk (Kd.V_elder' (by (with_reducible repeat (first | apply Kd.V_alloc | apply Kd.V_drewN | apply Kd.V_drew)); exact HO224.out) (Kd.R_base ho126) hb); have n3_ := Aside0.mk (Kd.V_elder' (by (with_reducible repeat (first | apply Kd.V_alloc | apply Kd.V_drewN | apply Kd.V_drew)); exact HO228.out) (Kd.R_base ho126) hb); have n4_ := Aside0.mk (Kd.R_lower ho126 (below_size (by repeat (first | (with_reducible first | exact HB.out | apply below_alloc | apply pw_below_drewN | apply below_drew1) | exact HB.out)))); have n5_ := Aside0.mk (below_step (by repeat (first | (with_reducible first | exact HB.out | apply below_alloc | apply pw_below_drewN | apply below_drew1) | exact HB.out)) hb); clear HO218; clear HO221; clear HO224; clear HO228; clear HB; have HO218 := n0_; have HO221 := n1_; have HO224 := n2_; have HO228 := n3_; have HO232 := n4_; have HB := n5_; clear n0_ n1_ n2_ n3_ n4_ n5_; clear hb ho126; obtain ⟨Ao127, co127, eo127⟩ := Kd.R_slice HO232.out; subst eo127) | (go_at_call 12; (with_reducible refine (prebendref11_Alike.calls k _ _ t222 _ _ y230 true _ ?side1 ?side2 ?side3 ?side4 A4.out).mono ?_); (case side1 => repeat (first | exact (Kd.V_reads' HO224.out).2.2 | (with_reducible refine Kd.C_alloc ?_ _) | (with_reducible refine Kd.C_drewN ?_ _) | (with_reducible refine Kd.C_drew ?_))); (case side2 => exact (Kd.V_reads' HO224.out).2.1); (case side3 => repeat (first | exact (Kd.R_reads' HO232.out).2.2 | (with_reducible refine Kd.C_alloc ?_ _) | (with_reducible refine Kd.C_drewN ?_ _) | (with_reducible refine Kd.C_drew ?_))); (case side4 => exact (Kd.R_reads' HO232.out).2.1); rintro e w' ⟨rfl, ⟨nd, rfl⟩⟩))
        go_ret
        exact ⟨by first | rfl | (simp [errW_none, errW_some] <;> rfl) | (simp [*, errW_none, errW_some] <;> rfl), by repeat (first | (with_reducible first | exact HB.out | apply below_alloc | apply pw_below_drewN | apply below_drew1) | exact HB.out)⟩
    · replace c5 := Bool.eq_false_iff.mpr c5
      subst c5
      have H1 : (some false) = some r := by rw [if_neg (show ¬ (false = true) by decide)] at H; exact H
      clear H
      have H := H1
      clear H1
      obtain rfl := Option.some.inj H
      go_enter Try.func11, Try.ntmps11
      go_wp2_with (first | ((with_reducible refine gate_dst (N := 8) rfl ?_); (try (refine gate_guard (by rfl) ?_; dsimp only)); refine Kd.R_lit k62 _ 62 ?hg (N := 8) ?hd (xs := ([(⟨(⟨#[97]⟩ : ByteArray), (-1), 0⟩ : S62)] : List (S62))) (inner := [.string (⟨#[97]⟩ : ByteArray), .int .i64 (-1), .int .i64 0]) (ok := fun _ => True) (okp := fun _ => True) ?hr ?hp (fun _ hk => hk) trivial (Below.refl _ _) (Nat.le_refl _) (by simp) ?_; (case hd => rfl); (case hg => rfl); (case hr => first | (go_simp; done) | (go_simp; rfl)); (case hp => exact (Reps.c3 (show Kd.M k62 _ _ _ (⟨(⟨#[97]⟩ : ByteArray), (-1), 0⟩ : S62) [.string (⟨#[97]⟩ : ByteArray), .int .i64 (-1), .int .i64 0] from (k62_mkM _ _ _ (⟨(⟨#[97]⟩ : ByteArray), (-1), 0⟩ : S62) )) (Reps.none _ _))); intro v217 w128 ho129 hb hg_ hnew_; clear hg_ hnew_; (first | rw [← Ny216.out] at ho129 | (simp only [Int.reduceToNat] at ho129; rw [← Ny216.out] at ho129)); have n0_ := Aside0.mk (Kd.R_lower ho129 (below_size (by repeat (first | (with_reducible first | exact HB.out | apply below_alloc | apply pw_below_drewN | apply below_drew1) | exact HB.out)))); have n1_ := Aside0.mk (below_step (by repeat (first | (with_reducible first | exact HB.out | apply below_alloc | apply pw_below_drewN | apply below_drew1) | exact HB.out)) hb); clear HB; have HO218 := n0_; have HB := n1_; clear n0_ n1_; clear hb ho129) | ((with_reducible refine gate_dst (N := 11) rfl ?_); (try (refine gate_guard (by rfl) ?_; dsimp only)); refine Kd.R_lit k46 _ 46 ?hg (N := 11) ?hd (xs := ([(⟨0, 0, 9, 5, 0, 0⟩ : S46), (⟨0, 0, 4, 5, 0, 0⟩ : S46)] : List (S46))) (inner := [.int .i64 0, .int .i64 0, .int .i64 9, .int .i64 5, .int .i64 0, .int .i64 0, .int .i64 0, .int .i64 0, .int .i64 4, .int .i64 5, .int .i64 0, .int .i64 0]) (ok := fun _ => True) (okp := fun _ => True) ?hr ?hp (fun _ hk => hk) trivial (Below.refl _ _) (Nat.le_refl _) (by simp) ?_; (case hd => rfl); (case hg => rfl); (case hr => first | (go_simp; done) | (go_simp; rfl)); (case hp => exact (Reps.c6 (show Kd.M k46 _ _ _ (⟨0, 0, 9, 5, 0, 0⟩ : S46) [.int .i64 0, .int .i64 0, .int .i64 9, .int .i64 5, .int .i64 0, .int .i64 0] from (k46_mkM _ _ _ (⟨0, 0, 9, 5, 0, 0⟩ : S46) )) (Reps.c6 (show Kd.M k46 _ _ _ (⟨0, 0, 4, 5, 0, 0⟩ : S46) [.int .i64 0, .int .i64 0, .int .i64 4, .int .i64 5, .int .i64 0, .int .i64 0] from (k46_mkM _ _ _ (⟨0, 0, 4, 5, 0, 0⟩ : S46) )) (Reps.none _ _)))); intro v220 w130 ho131 hb hg_ hnew_; clear hg_ hnew_; (first | rw [← Ny219.out] at ho131 | (simp only [Int.reduceToNat] at ho131; rw [← Ny219.out] at ho131)); have n0_ := Aside0.mk (Kd.R_below (by (with_reducible repeat (first | apply Kd.R_alloc | apply Kd.R_drewN | apply Kd.R_drew)); exact HO218.out) hb); have n1_ := Aside0.mk (Kd.R_lower ho131 (below_size (by repeat (first | (with_reducible first | exact HB.out | apply below_alloc | apply pw_below_drewN | apply below_drew1) | exact HB.out)))); have n2_ := Aside0.mk (below_step (by repeat (first | (with_reducible first | exact HB.out | apply below_alloc | apply pw_below_drewN | apply below_drew1) | exact HB.out)) hb); clear HO218; clear HB; have HO218 := n0_; have HO221 := n1_; have HB := n2_; clear n0_ n1_ n2_; clear hb ho131; obtain ⟨Ao132, co132, eo132⟩ := Kd.R_slice HO218.out; subst eo132; obtain ⟨Ao133, co133, eo133⟩ := Kd.R_slice HO221.out; subst eo133) | ((with_reducible refine gate_callee (f := 9) rfl ?_); refine goesL_ (some 15) rfl rfl Try.func9 (by kernel_rfl) rfl #[.slice Ao132 y216.length co132, .slice Ao133 y219.length co133, .int .i64 0, .int .i64 7, .int .i64 0] rfl (by (try simp only [List.map_toArray, List.map_cons, List.map_nil]); first | done | rfl | (simp only [List.length_drop, List.length_take]; rfl)) ?_; (with_reducible refine (draw_Draws.calls k _ _ y216 _ _ y219 0 7 0 t222 t225 _ ?side1 ?side2 ?side3 ?side4 A1.out).mono ?_); (case side1 => repeat (first | exact (Kd.R_reads' HO218.out).2.2 | (with_reducible refine Kd.C_alloc ?_ _) | (with_reducible refine Kd.C_drewN ?_ _) | (with_reducible refine Kd.C_drew ?_))); (case side2 => exact (Kd.R_reads' HO218.out).2.1); (case side3 => repeat (first | exact (Kd.R_reads' HO221.out).2.2 | (with_reducible refine Kd.C_alloc ?_ _) | (with_reducible refine Kd.C_drewN ?_ _) | (with_reducible refine Kd.C_drew ?_))); (case side4 => exact (Kd.R_reads' HO221.out).2.1); rintro e w134 ⟨v223, rfl, ho0, hb⟩; refine ⟨_, rfl, ?_⟩; have n0_ := Aside0.mk (Kd.R_below (by (with_reducible repeat (first | apply Kd.R_alloc | apply Kd.R_drewN | apply Kd.R_drew)); exact HO218.out) hb); have n1_ := Aside0.mk (Kd.R_below (by (with_reducible repeat (first | apply Kd.R_alloc | apply Kd.R_drewN | apply Kd.R_drew)); exact HO221.out) hb); have n2_ := Aside0.mk (Kd.V_lower (Kd.V_mono (ok' := fun k_ => some k_ ≠ (.slice Ao132 y216.length co132 : Value).ownBlock ∧ some k_ ≠ (.slice Ao133 y219.length co133 : Value).ownBlock) ho0 (fun k_ hk_ => ⟨(Kd.fresh' (Kd.R_lt (by (with_reducible repeat (first | apply Kd.R_alloc | apply Kd.R_drewN | apply Kd.R_drew)); exact HO218.out)) k_ hk_), (Kd.fresh' (Kd.R_lt (by (with_reducible repeat (first | apply Kd.R_alloc | apply Kd.R_drewN | apply Kd.R_drew)); exact HO221.out)) k_ hk_)⟩)) (below_size (by repeat (first | (with_reducible first | exact HB.out | apply below_alloc | apply pw_below_drewN | apply below_drew1) | exact HB.out)))); have n3_ := Aside0.mk (below_step (by repeat (first | (with_reducible first | exact HB.out | apply below_alloc | apply pw_below_drewN | apply below_drew1) | exact HB.out)) hb); clear HO218; clear HO221; clear HB; have HO218 := n0_; have HO221 := n1_; have HO224 := n2_; have HB := n3_; clear n0_ n1_ n2_ n3_; (try clear hb); (try clear hb2); (try clear hk); (try clear hi); (try clear ho0); obtain ⟨Ao135, co135, eo135⟩ := Kd.V_slice HO224.out; subst eo135) | ((with_reducible refine gate_callee (f := 21) rfl ?_); refine goesL_ (some 20) rfl rfl Try.func21 (by kernel_rfl) rfl #[.slice Ao135 t222.length co135, .int .i64 6] rfl (by (try simp only [List.map_toArray, List.map_cons, List.map_nil]); first | done | rfl | (simp only [List.length_drop, List.length_take]; rfl)) ?_; (with_reducible refine (draw_Charge.calls k _ _ t222 6 t226 t229 _ ?side1 ?side2 A2.out).mono ?_); (case side1 => repeat (first | exact (Kd.V_reads' HO224.out).2.2 | (with_reducible refine Kd.C_alloc ?_ _) | (with_reducible refine Kd.C_drewN ?_ _) | (with_reducible refine Kd.C_drew ?_))); (case side2 => exact (Kd.V_reads' HO224.out).2.1); rintro e w136 ⟨v227, rfl, ho0, hb⟩; refine ⟨_, rfl, ?_⟩; have n0_ := Aside0.mk (Kd.R_below (by (with_reducible repeat (first | apply Kd.R_alloc | apply Kd.R_drewN | apply Kd.R_drew)); exact HO218.out) hb); have n1_ := Aside0.mk (Kd.R_below (by (with_reducible repeat (first | apply Kd.R_alloc | apply Kd.R_drewN | apply Kd.R_drew)); exact HO221.out) hb); have n2_ := Aside0.mk (Kd.V_below (by (with_reducible repeat (first | apply Kd.V_alloc | apply Kd.V_drewN | apply Kd.V_drew)); exact HO224.out) hb); have n3_ := Aside0.mk (Kd.V_lower (Kd.V_mono (ok' := fun k_ => some k_ ≠ (.slice Ao132 y216.length co132 : Value).ownBlock ∧ some k_ ≠ (.slice Ao133 y219.length co133 : Value).ownBlock) ho0 (fun k_ hk_ => ⟨(Kd.fresh' (Kd.R_lt (by (with_reducible repeat (first | apply Kd.R_alloc | apply Kd.R_drewN | apply Kd.R_drew)); exact HO218.out)) k_ hk_), (Kd.fresh' (Kd.R_lt (by (with_reducible repeat (first | apply Kd.R_alloc | apply Kd.R_drewN | apply Kd.R_drew)); exact HO221.out)) k_ hk_)⟩)) (below_size (by repeat (first | (with_reducible first | exact HB.out | apply below_alloc | apply pw_below_drewN | apply below_drew1) | exact HB.out)))); have n4_ := Aside0.mk (below_step (by repeat (first | (with_reducible first | exact HB.out | apply below_alloc | apply pw_below_drewN | apply below_drew1) | exact HB.out)) hb); clear HO218; clear HO221; clear HO224; clear HB; have HO218 := n0_; have HO221 := n1_; have HO224 := n2_; have HO228 := n3_; have HB := n4_; clear n0_ n1_ n2_ n3_ n4_; (try clear hb); (try clear hb2); (try clear hk); (try clear hi); (try clear ho0)) | ((with_reducible refine gate_dst (N := 29) rfl ?_); (try (refine gate_guard (by rfl) ?_; dsimp only)); refine Kd.R_lit k37 _ 37 ?hg (N := 29) ?hd (xs := ([(⟨1, 5⟩ : S37), (⟨0, 2⟩ : S37)] : List (S37))) (inner := [.int .i64 1, .int .i64 5, .int .i64 0, .int .i64 2]) (ok := fun _ => True) (okp := fun _ => True) ?hr ?hp (fun _ hk => hk) trivial (Below.refl _ _) (Nat.le_refl _) (by simp) ?_; (case hd => rfl); (case hg => rfl); (case hr => first | (go_simp; done) | (go_simp; rfl)); (case hp => exact (Reps.c2 (show Kd.M k37 _ _ _ (⟨1, 5⟩ : S37) [.int .i64 1, .int .i64 5] from (k37_mkM _ _ _ (⟨1, 5⟩ : S37) )) (Reps.c2 (show Kd.M k37 _ _ _ (⟨0, 2⟩ : S37) [.int .i64 0, .int .i64 2] from (k37_mkM _ _ _ (⟨0, 2⟩ : S37) )) (Reps.none _ _)))); intro v231 w137 ho138 hb hg_ hnew_; clear hg_ hnew_; (first | rw [← Ny230.out] at ho138 | (simp only [Int.reduceToNat] at ho138; rw [← Ny230.out] at ho138)); have n0_ := Aside0.mk (Kd.R_below (by (with_reducible repeat (first | apply Kd.R_alloc | apply Kd.R_drewN | apply Kd.R_drew)); exact HO218.out) hb); have n1_ := Aside0.mk (Kd.R_below (by (with_reducible repeat (first | apply Kd.R_alloc | apply Kd.R_drewN | apply Kd.R_drew)); exact HO221.out) hb); have n2_ := Aside0.mk (Kd.V_elder' (by (with_reducible repeat (first | apply Kd.V_alloc | apply Kd.V_drewN | apply Kd.V_drew)); exact HO224.out) (Kd.R_base ho138) hb); have n3_ := Aside0.mk (Kd.V_elder' (by (with_reducible repeat (first | apply Kd.V_alloc | apply Kd.V_drewN | apply Kd.V_drew)); exact HO228.out) (Kd.R_base ho138) hb); have n4_ := Aside0.mk (Kd.R_lower ho138 (below_size (by repeat (first | (with_reducible first | exact HB.out | apply below_alloc | apply pw_below_drewN | apply below_drew1) | exact HB.out)))); have n5_ := Aside0.mk (below_step (by repeat (first | (with_reducible first | exact HB.out | apply below_alloc | apply pw_below_drewN | apply below_drew1) | exact HB.out)) hb); clear HO218; clear HO221; clear HO224; clear HO228; clear HB; have HO218 := n0_; have HO221 := n1_; have HO224 := n2_; have HO228 := n3_; have HO232 := n4_; have HB := n5_; clear n0_ n1_ n2_ n3_ n4_ n5_; clear hb ho138; obtain ⟨Ao139, co139, eo139⟩ := Kd.R_slice HO232.out; subst eo139) | (go_at_call 12; (with_reducible refine (prebendref11_Alike.calls k _ _ t222 _ _ y230 false _ ?side1 ?side2 ?side3 ?side4 A4.out).mono ?_); (case side1 => repeat (first | exact (Kd.V_reads' HO224.out).2.2 | (with_reducible refine Kd.C_alloc ?_ _) | (with_reducible refine Kd.C_drewN ?_ _) | (with_reducible refine Kd.C_drew ?_))); (case side2 => exact (Kd.V_reads' HO224.out).2.1); (case side3 => repeat (first | exact (Kd.R_reads' HO232.out).2.2 | (with_reducible refine Kd.C_alloc ?_ _) | (with_reducible refine Kd.C_drewN ?_ _) | (with_reducible refine Kd.C_drew ?_))); (case side4 => exact (Kd.R_reads' HO232.out).2.1); rintro e w' ⟨rfl, ⟨nd, rfl⟩⟩))
      go_ret
      exact ⟨by first | rfl | (simp [errW_none, errW_some] <;> rfl) | (simp [*, errW_none, errW_some] <;> rfl), by repeat (first | (with_reducible first | exact HB.out | apply below_alloc | apply pw_below_drewN | apply below_drew1) | exact HB.out)⟩
  · rw [if_neg c3] at H
    have c3b0 : (t225 == 0) = false := beq_eq_false_iff_ne.mpr c3
    have c3b1 : (t225 != 0) = true := bne_iff_ne.mpr c3
    obtain rfl := Option.some.inj H
    go_enter Try.func11, Try.ntmps11
    go_wp2_with (first | ((with_reducible refine gate_dst (N := 8) rfl ?_); (try (refine gate_guard (by rfl) ?_; dsimp only)); refine Kd.R_lit k62 _ 62 ?hg (N := 8) ?hd (xs := ([(⟨(⟨#[97]⟩ : ByteArray), (-1), 0⟩ : S62)] : List (S62))) (inner := [.string (⟨#[97]⟩ : ByteArray), .int .i64 (-1), .int .i64 0]) (ok := fun _ => True) (okp := fun _ => True) ?hr ?hp (fun _ hk => hk) trivial (Below.refl _ _) (Nat.le_refl _) (by simp) ?_; (case hd => rfl); (case hg => rfl); (case hr => first | (go_simp; done) | (go_simp; rfl)); (case hp => exact (Reps.c3 (show Kd.M k62 _ _ _ (⟨(⟨#[97]⟩ : ByteArray), (-1), 0⟩ : S62) [.string (⟨#[97]⟩ : ByteArray), .int .i64 (-1), .int .i64 0] from (k62_mkM _ _ _ (⟨(⟨#[97]⟩ : ByteArray), (-1), 0⟩ : S62) )) (Reps.none _ _))); intro v217 w140 ho141 hb hg_ hnew_; clear hg_ hnew_; (first | rw [← Ny216.out] at ho141 | (simp only [Int.reduceToNat] at ho141; rw [← Ny216.out] at ho141)); have n0_ := Aside0.mk (Kd.R_lower ho141 (below_size (by repeat (first | (with_reducible first | exact HB.out | apply below_alloc | apply pw_below_drewN | apply below_drew1) | exact HB.out)))); have n1_ := Aside0.mk (below_step (by repeat (first | (with_reducible first | exact HB.out | apply below_alloc | apply pw_below_drewN | apply below_drew1) | exact HB.out)) hb); clear HB; have HO218 := n0_; have HB := n1_; clear n0_ n1_; clear hb ho141) | ((with_reducible refine gate_dst (N := 11) rfl ?_); (try (refine gate_guard (by rfl) ?_; dsimp only)); refine Kd.R_lit k46 _ 46 ?hg (N := 11) ?hd (xs := ([(⟨0, 0, 9, 5, 0, 0⟩ : S46), (⟨0, 0, 4, 5, 0, 0⟩ : S46)] : List (S46))) (inner := [.int .i64 0, .int .i64 0, .int .i64 9, .int .i64 5, .int .i64 0, .int .i64 0, .int .i64 0, .int .i64 0, .int .i64 4, .int .i64 5, .int .i64 0, .int .i64 0]) (ok := fun _ => True) (okp := fun _ => True) ?hr ?hp (fun _ hk => hk) trivial (Below.refl _ _) (Nat.le_refl _) (by simp) ?_; (case hd => rfl); (case hg => rfl); (case hr => first | (go_simp; done) | (go_simp; rfl)); (case hp => exact (Reps.c6 (show Kd.M k46 _ _ _ (⟨0, 0, 9, 5, 0, 0⟩ : S46) [.int .i64 0, .int .i64 0, .int .i64 9, .int .i64 5, .int .i64 0, .int .i64 0] from (k46_mkM _ _ _ (⟨0, 0, 9, 5, 0, 0⟩ : S46) )) (Reps.c6 (show Kd.M k46 _ _ _ (⟨0, 0, 4, 5, 0, 0⟩ : S46) [.int .i64 0, .int .i64 0, .int .i64 4, .int .i64 5, .int .i64 0, .int .i64 0] from (k46_mkM _ _ _ (⟨0, 0, 4, 5, 0, 0⟩ : S46) )) (Reps.none _ _)))); intro v220 w142 ho143 hb hg_ hnew_; clear hg_ hnew_; (first | rw [← Ny219.out] at ho143 | (simp only [Int.reduceToNat] at ho143; rw [← Ny219.out] at ho143)); have n0_ := Aside0.mk (Kd.R_below (by (with_reducible repeat (first | apply Kd.R_alloc | apply Kd.R_drewN | apply Kd.R_drew)); exact HO218.out) hb); have n1_ := Aside0.mk (Kd.R_lower ho143 (below_size (by repeat (first | (with_reducible first | exact HB.out | apply below_alloc | apply pw_below_drewN | apply below_drew1) | exact HB.out)))); have n2_ := Aside0.mk (below_step (by repeat (first | (with_reducible first | exact HB.out | apply below_alloc | apply pw_below_drewN | apply below_drew1) | exact HB.out)) hb); clear HO218; clear HB; have HO218 := n0_; have HO221 := n1_; have HB := n2_; clear n0_ n1_ n2_; clear hb ho143; obtain ⟨Ao144, co144, eo144⟩ := Kd.R_slice HO218.out; subst eo144; obtain ⟨Ao145, co145, eo145⟩ := Kd.R_slice HO221.out; subst eo145) | ((with_reducible refine gate_callee (f := 9) rfl ?_); refine goesL_ (some 15) rfl rfl Try.func9 (by kernel_rfl) rfl #[.slice Ao144 y216.length co144, .slice Ao145 y219.length co145, .int .i64 0, .int .i64 7, .int .i64 0] rfl (by (try simp only [List.map_toArray, List.map_cons, List.map_nil]); first | done | rfl | (simp only [List.length_drop, List.length_take]; rfl)) ?_; (with_reducible refine (draw_Draws.calls k _ _ y216 _ _ y219 0 7 0 t222 t225 _ ?side1 ?side2 ?side3 ?side4 A1.out).mono ?_); (case side1 => repeat (first | exact (Kd.R_reads' HO218.out).2.2 | (with_reducible refine Kd.C_alloc ?_ _) | (with_reducible refine Kd.C_drewN ?_ _) | (with_reducible refine Kd.C_drew ?_))); (case side2 => exact (Kd.R_reads' HO218.out).2.1); (case side3 => repeat (first | exact (Kd.R_reads' HO221.out).2.2 | (with_reducible refine Kd.C_alloc ?_ _) | (with_reducible refine Kd.C_drewN ?_ _) | (with_reducible refine Kd.C_drew ?_))); (case side4 => exact (Kd.R_reads' HO221.out).2.1); rintro e w146 ⟨v223, rfl, ho0, hb⟩; refine ⟨_, rfl, ?_⟩; have n0_ := Aside0.mk (Kd.R_below (by (with_reducible repeat (first | apply Kd.R_alloc | apply Kd.R_drewN | apply Kd.R_drew)); exact HO218.out) hb); have n1_ := Aside0.mk (Kd.R_below (by (with_reducible repeat (first | apply Kd.R_alloc | apply Kd.R_drewN | apply Kd.R_drew)); exact HO221.out) hb); have n2_ := Aside0.mk (Kd.V_lower (Kd.V_mono (ok' := fun k_ => some k_ ≠ (.slice Ao144 y216.length co144 : Value).ownBlock ∧ some k_ ≠ (.slice Ao145 y219.length co145 : Value).ownBlock) ho0 (fun k_ hk_ => ⟨(Kd.fresh' (Kd.R_lt (by (with_reducible repeat (first | apply Kd.R_alloc | apply Kd.R_drewN | apply Kd.R_drew)); exact HO218.out)) k_ hk_), (Kd.fresh' (Kd.R_lt (by (with_reducible repeat (first | apply Kd.R_alloc | apply Kd.R_drewN | apply Kd.R_drew)); exact HO221.out)) k_ hk_)⟩)) (below_size (by repeat (first | (with_reducible first | exact HB.out | apply below_alloc | apply pw_below_drewN | apply below_drew1) | exact HB.out)))); have n3_ := Aside0.mk (below_step (by repeat (first | (with_reducible first | exact HB.out | apply below_alloc | apply pw_below_drewN | apply below_drew1) | exact HB.out)) hb); clear HO218; clear HO221; clear HB; have HO218 := n0_; have HO221 := n1_; have HO224 := n2_; have HB := n3_; clear n0_ n1_ n2_ n3_; (try clear hb); (try clear hb2); (try clear hk); (try clear hi); (try clear ho0); obtain ⟨Ao147, co147, eo147⟩ := Kd.V_slice HO224.out; subst eo147) | ((with_reducible refine gate_callee (f := 21) rfl ?_); refine goesL_ (some 20) rfl rfl Try.func21 (by kernel_rfl) rfl #[.slice Ao147 t222.length co147, .int .i64 6] rfl (by (try simp only [List.map_toArray, List.map_cons, List.map_nil]); first | done | rfl | (simp only [List.length_drop, List.length_take]; rfl)) ?_; (with_reducible refine (draw_Charge.calls k _ _ t222 6 t226 t229 _ ?side1 ?side2 A2.out).mono ?_); (case side1 => repeat (first | exact (Kd.V_reads' HO224.out).2.2 | (with_reducible refine Kd.C_alloc ?_ _) | (with_reducible refine Kd.C_drewN ?_ _) | (with_reducible refine Kd.C_drew ?_))); (case side2 => exact (Kd.V_reads' HO224.out).2.1); rintro e w148 ⟨v227, rfl, ho0, hb⟩; refine ⟨_, rfl, ?_⟩; have n0_ := Aside0.mk (Kd.R_below (by (with_reducible repeat (first | apply Kd.R_alloc | apply Kd.R_drewN | apply Kd.R_drew)); exact HO218.out) hb); have n1_ := Aside0.mk (Kd.R_below (by (with_reducible repeat (first | apply Kd.R_alloc | apply Kd.R_drewN | apply Kd.R_drew)); exact HO221.out) hb); have n2_ := Aside0.mk (Kd.V_below (by (with_reducible repeat (first | apply Kd.V_alloc | apply Kd.V_drewN | apply Kd.V_drew)); exact HO224.out) hb); have n3_ := Aside0.mk (Kd.V_lower (Kd.V_mono (ok' := fun k_ => some k_ ≠ (.slice Ao144 y216.length co144 : Value).ownBlock ∧ some k_ ≠ (.slice Ao145 y219.length co145 : Value).ownBlock) ho0 (fun k_ hk_ => ⟨(Kd.fresh' (Kd.R_lt (by (with_reducible repeat (first | apply Kd.R_alloc | apply Kd.R_drewN | apply Kd.R_drew)); exact HO218.out)) k_ hk_), (Kd.fresh' (Kd.R_lt (by (with_reducible repeat (first | apply Kd.R_alloc | apply Kd.R_drewN | apply Kd.R_drew)); exact HO221.out)) k_ hk_)⟩)) (below_size (by repeat (first | (with_reducible first | exact HB.out | apply below_alloc | apply pw_below_drewN | apply below_drew1) | exact HB.out)))); have n4_ := Aside0.mk (below_step (by repeat (first | (with_reducible first | exact HB.out | apply below_alloc | apply pw_below_drewN | apply below_drew1) | exact HB.out)) hb); clear HO218; clear HO221; clear HO224; clear HB; have HO218 := n0_; have HO221 := n1_; have HO224 := n2_; have HO228 := n3_; have HB := n4_; clear n0_ n1_ n2_ n3_ n4_; (try clear hb); (try clear hb2); (try clear hk); (try clear hi); (try clear ho0)))
    go_ret
    exact ⟨by first | rfl | (simp [errW_none, errW_some] <;> rfl) | (simp [*, errW_none, errW_some] <;> rfl), by repeat (first | (with_reducible first | exact HB.out | apply below_alloc | apply pw_below_drewN | apply below_drew1) | exact HB.out)⟩

end Go.Proofs.Ytlccomoiajnkmaa.PAll
end
section
namespace Go.Proofs.Ytlccomoiajnkmaa.PAll
open Go.RowKit Go.Proofs.YtlccomoiajnkmaaW.PrintWords Go.Proofs.YtlccomoiajnkmaaW.PrintLast Go.Proofs.YtlccomoiajnkmaaW.PrintMore
attribute [local go_sem] max2_int min2_int max_two min_two max_three min_three max_four min_four   -- for this text's walks alone
set_option linter.unusedVariables false
set_option linter.unusedSimpArgs false

def money_fits.f (a0 : Int) : Option (Bool) := if a0 ≥ (-1152921504606846976) then (some (decide (a0 ≤ 1152921504606846976))) else (some false)
set_option maxHeartbeats 8000000 in
set_option maxRecDepth 100000 in
theorem money_fits.calls (a0 : Int) (r : Bool) (w : World) (h : money_fits.f a0 = some r) :
    Calls Try.prog 49 #[.int .i64 a0] w fun e w' => e = .returned (.bool r) ∧ Drawn0 w w' := by
  have H : (if a0 ≥ (-1152921504606846976) then (some (decide (a0 ≤ 1152921504606846976))) else (some false)) = some r := h
  clear h
  by_cases c2 : a0 ≥ (-1152921504606846976)
  · rw [if_pos c2] at H
    have c2b0 : decide ((-1152921504606846976) ≤ a0) = true := decide_eq_true c2
    clear c2
    obtain rfl := Option.some.inj H
    go_enter Try.func49, Try.ntmps49
    go_wp2
    go_ret
    exact ⟨by first | rfl | (simp; done) | (simp [*]; done), by repeat (first | exact Drawn0.refl _ | apply Drawn0.step)⟩
  · rw [if_neg c2] at H
    have c2b0 : decide ((-1152921504606846976) ≤ a0) = false := decide_eq_false c2
    clear c2
    obtain rfl := Option.some.inj H
    go_enter Try.func49, Try.ntmps49
    go_wp2
    go_ret
    exact ⟨by first | rfl | (simp; done) | (simp [*]; done), by repeat (first | exact Drawn0.refl _ | apply Drawn0.step)⟩

end Go.Proofs.Ytlccomoiajnkmaa.PAll
end
section
namespace Go.Proofs.Ytlccomoiajnkmaa.PAll
open Go.RowKit Go.Proofs.YtlccomoiajnkmaaW.PrintWords Go.Proofs.YtlccomoiajnkmaaW.PrintLast Go.Proofs.YtlccomoiajnkmaaW.PrintMore
attribute [local go_sem] max2_int min2_int max_two min_two max_three min_three max_four min_four   -- for this text's walks alone
set_option linter.unusedVariables false
set_option linter.unusedSimpArgs false

def money_Add.l0 : Nat → Int → List Int → Int → Int → Option (Int × Int)
  | 0, _, _, _, _ => none
  | k + 1, x4, x7, x8, x9 => if x9 < x8 then (if 0 ≤ x9 then (if x9 < (x7.length : Int) then ((money_fits.f (rd x7 x9)).bind fun t382 => (if t382 = true then ((money_fits.f (wrap64 (x4 + (rd x7 x9)))).bind fun t383 => (if t383 = true then (money_Add.l0 k (wrap64 (x4 + (rd x7 x9))) x7 x8 (wrap64 (x9 + 1))) else (some (0, 2)))) else (some (0, 2)))) else (none)) else (none)) else (some (x4, 0))
def money_Add.f (k : Nat) (l0 : List Int) : Option (Int × Int) := money_Add.l0 k 0 l0 (l0.length : Int) 0
theorem money_Add.mono_l : ∀ k, (∀ y0 y1 y2 y3, LeO (money_Add.l0 k y0 y1 y2 y3) (money_Add.l0 (k + 1) y0 y1 y2 y3))
  | 0 => fun _ _ _ _ r h => by simp [money_Add.l0] at h
  | k + 1 => by
    have ih0 := money_Add.mono_l k
    · intro y0 y1 y2 y3
      unfold money_Add.l0
      repeat' first
      | (with_reducible exact ih0 _ _ _ _)
      | (with_reducible exact LeO.refl _)
      | (with_reducible exact LeO.none _)
      | (with_reducible refine LeO.ite ?_ ?_)
      | (with_reducible refine LeO.bind ?_ (fun _ => ?_))
      | exact ih0 _ _ _ _
      | exact LeO.none _
      | refine LeO.ite ?_ ?_
      | refine LeO.bind ?_ (fun _ => ?_)
theorem money_Add.mono : ∀ a0 k, LeO (money_Add.f k a0) (money_Add.f (k + 1) a0) := by
  intro a0 k
  have ih0 := money_Add.mono_l k
  unfold money_Add.f
  repeat' first
      | (with_reducible exact ih0 _ _ _ _)
      | (with_reducible exact LeO.refl _)
      | (with_reducible exact LeO.none _)
      | (with_reducible refine LeO.ite ?_ ?_)
      | (with_reducible refine LeO.bind ?_ (fun _ => ?_))
      | exact ih0 _ _ _ _
      | exact LeO.none _
      | refine LeO.ite ?_ ?_
      | refine LeO.bind ?_ (fun _ => ?_)
set_option maxHeartbeats 8000000 in
set_option maxRecDepth 100000 in
theorem money_Add.calls (k : Nat) (A0 : Option Addr) (c0 : Nat) (l0 : List Int) (r1 : Int) (r2 : Int) (w : World) (hr0 : Kd.C (Kd.int .i64) w A0 l0.length l0) (hc0 : l0.length ≤ c0) (h : money_Add.f k l0 = some (r1, r2)) :
    Calls Try.prog 37 #[.slice A0 l0.length c0] w fun e w' => e = .returned (.tuple #[.int .i64 r1, .int .i64 r2]) ∧ Drawn0 w w' := by
  have HR0 := Aside0.mk hr0
  have HC0 := Aside0.mk hc0
  clear hr0 hc0
  have H : (money_Add.l0 k 0 l0 (l0.length : Int) 0) = some (r1, r2) := h
  clear h
  have H' := Aside0.mk H
  clear H
  go_enter Try.func37, Try.ntmps37
  go_wp2
  go_loopg [4, 9] k (fun kq v4 v9 w' => ∃ (x4_1 : Int) (x9_1 : Int), v4 = .int .i64 x4_1 ∧ v9 = .int .i64 x9_1 ∧ Aside0 (money_Add.l0 kq x4_1 l0 (l0.length : Int) x9_1 = some (r1, r2)) ∧ Aside0 (kq ≤ k) ∧ Drawn0 w w')
  case atStart => exact ⟨(0), (0), (by first | rfl | (simp; done) | (simp [*]; done)), (by first | rfl | (simp; done) | (simp [*]; done)), H', ⟨Nat.le_refl _⟩, by repeat (first | exact Drawn0.refl _ | apply Drawn0.step)⟩
  case round =>
    clear H'
    obtain ⟨x4_1, x9_1, rfl, rfl, HA, HK1, ⟨m1, rfl⟩⟩ := hrel
    cases gk with
    | zero => exact absurd HA.out (by simp [money_Add.l0])
    | succ k1 =>
      have H := HA.out
      clear HA
      simp only [money_Add.l0] at H
      by_cases c2 : x9_1 < (l0.length : Int)
      · rw [if_pos c2] at H
        have c2b0 : decide (x9_1 < (l0.length : Int)) = true := decide_eq_true c2
        clear c2
        by_cases c3 : 0 ≤ x9_1
        · rw [if_pos c3] at H
          have c3b0 : decide (0 ≤ x9_1) = true := decide_eq_true c3
          clear c3
          by_cases c4 : x9_1 < (l0.length : Int)
          · rw [if_pos c4] at H
            have c4b0 : decide (x9_1 < (l0.length : Int)) = true := decide_eq_true c4
            clear c4
            replace H := Option.bind_eq_some_iff.mp H
            obtain ⟨t382, A50, H⟩ := H
            replace H : (if t382 = true then ((money_fits.f (wrap64 (x4_1 + (rd l0 x9_1)))).bind fun t383 => (if t383 = true then (money_Add.l0 k1 (wrap64 (x4_1 + (rd l0 x9_1))) l0 (l0.length : Int) (wrap64 (x9_1 + 1))) else (some (0, 2)))) else (some (0, 2))) = some (r1, r2) := H
            have A5 := Aside0.mk A50
            clear A50
            by_cases c6 : t382 = true
            · subst c6
              have H1 : ((money_fits.f (wrap64 (x4_1 + (rd l0 x9_1)))).bind fun t383 => (if t383 = true then (money_Add.l0 k1 (wrap64 (x4_1 + (rd l0 x9_1))) l0 (l0.length : Int) (wrap64 (x9_1 + 1))) else (some (0, 2)))) = some (r1, r2) := by rw [if_pos rfl] at H; exact H
              clear H
              have H := H1
              clear H1
              replace H := Option.bind_eq_some_iff.mp H
              obtain ⟨t383, A70, H⟩ := H
              replace H : (if t383 = true then (money_Add.l0 k1 (wrap64 (x4_1 + (rd l0 x9_1))) l0 (l0.length : Int) (wrap64 (x9_1 + 1))) else (some (0, 2))) = some (r1, r2) := H
              have A7 := Aside0.mk A70
              clear A70
              by_cases c8 : t383 = true
              · subst c8
                have H1 : (money_Add.l0 k1 (wrap64 (x4_1 + (rd l0 x9_1))) l0 (l0.length : Int) (wrap64 (x9_1 + 1))) = some (r1, r2) := by rw [if_pos rfl] at H; exact H
                clear H
                have H := H1
                clear H1
                have H' := Aside0.mk H
                clear H
                have p381 : 0 ≤ (x9_1 : Int) := of_decide_eq_true (by first | (with_reducible assumption) | assumption)
                have q381 : x9_1 < (l0.length : Int) := of_decide_eq_true (by first | (with_reducible assumption) | assumption)
                obtain ⟨ad381, e381, hx381_0⟩ := Kd.at_int HR0.out x9_1 p381 q381
                cases e381
                replace p381 := eq_true p381
                replace q381 := eq_true q381
                go_wp2_with (first | ((with_reducible refine gate_callee (f := 49) rfl ?_); refine goesL_ (some 14) rfl rfl Try.func49 (by kernel_rfl) rfl #[.int .i64 (rd l0 x9_1)] rfl (by (try simp only [List.map_toArray, List.map_cons, List.map_nil]); first | done | rfl | (simp only [List.length_drop, List.length_take]; rfl)) ?_; (with_reducible refine (money_fits.calls (rd l0 x9_1) true _ A5.out).mono ?_); rintro e w' ⟨rfl, ⟨nd, rfl⟩⟩; refine ⟨_, rfl, ?_⟩) | (go_at_call 49; (with_reducible refine (money_fits.calls (wrap64 (x4_1 + (rd l0 x9_1))) true _ A7.out).mono ?_); rintro e w' ⟨rfl, ⟨nd, rfl⟩⟩))
                go_roundg k1
                case measure => have := HK1.out; omega
                case rel => exact ⟨(wrap64 (x4_1 + (rd l0 x9_1))), (wrap64 (x9_1 + 1)), (by first | rfl | (simp; done) | (simp [*]; done)), (by first | rfl | (simp; done) | (simp [*]; done)), H', ⟨by have := HK1.out; omega⟩, by repeat (first | exact Drawn0.refl _ | apply Drawn0.step)⟩
              · replace c8 := Bool.eq_false_iff.mpr c8
                subst c8
                have H1 : (some (0, 2)) = some (r1, r2) := by rw [if_neg (show ¬ (false = true) by decide)] at H; exact H
                clear H
                have H := H1
                clear H1
                simp only [Option.some.injEq, Prod.mk.injEq] at H
                obtain ⟨rfl, rfl⟩ := H
                have p381 : 0 ≤ (x9_1 : Int) := of_decide_eq_true (by first | (with_reducible assumption) | assumption)
                have q381 : x9_1 < (l0.length : Int) := of_decide_eq_true (by first | (with_reducible assumption) | assumption)
                obtain ⟨ad381, e381, hx381_0⟩ := Kd.at_int HR0.out x9_1 p381 q381
                cases e381
                replace p381 := eq_true p381
                replace q381 := eq_true q381
                go_wp2_with (first | ((with_reducible refine gate_callee (f := 49) rfl ?_); refine goesL_ (some 14) rfl rfl Try.func49 (by kernel_rfl) rfl #[.int .i64 (rd l0 x9_1)] rfl (by (try simp only [List.map_toArray, List.map_cons, List.map_nil]); first | done | rfl | (simp only [List.length_drop, List.length_take]; rfl)) ?_; (with_reducible refine (money_fits.calls (rd l0 x9_1) true _ A5.out).mono ?_); rintro e w' ⟨rfl, ⟨nd, rfl⟩⟩; refine ⟨_, rfl, ?_⟩) | (go_at_call 49; (with_reducible refine (money_fits.calls (wrap64 (x4_1 + (rd l0 x9_1))) false _ A7.out).mono ?_); rintro e w' ⟨rfl, ⟨nd, rfl⟩⟩))
                go_ret2
                exact ⟨by first | rfl | (simp; done) | (simp [*]; done), by repeat (first | exact Drawn0.refl _ | apply Drawn0.step)⟩
            · replace c6 := Bool.eq_false_iff.mpr c6
              subst c6
              have H1 : (some (0, 2)) = some (r1, r2) := by rw [if_neg (show ¬ (false = true) by decide)] at H; exact H
              clear H
              have H := H1
              clear H1
              simp only [Option.some.injEq, Prod.mk.injEq] at H
              obtain ⟨rfl, rfl⟩ := H
              have p381 : 0 ≤ (x9_1 : Int) := of_decide_eq_true (by first | (with_reducible assumption) | assumption)
              have q381 : x9_1 < (l0.length : Int) := of_decide_eq_true (by first | (with_reducible assumption) | assumption)
              obtain ⟨ad381, e381, hx381_0⟩ := Kd.at_int HR0.out x9_1 p381 q381
              cases e381
              replace p381 := eq_true p381
              replace q381 := eq_true q381
              go_wp2_with (first | ((with_reducible refine gate_callee (f := 49) rfl ?_); refine goesL_ (some 14) rfl rfl Try.func49 (by kernel_rfl) rfl #[.int .i64 (rd l0 x9_1)] rfl (by (try simp only [List.map_toArray, List.map_cons, List.map_nil]); first | done | rfl | (simp only [List.length_drop, List.length_take]; rfl)) ?_; (with_reducible refine (money_fits.calls (rd l0 x9_1) false _ A5.out).mono ?_); rintro e w' ⟨rfl, ⟨nd, rfl⟩⟩; refine ⟨_, rfl, ?_⟩))
              go_ret2
              exact ⟨by first | rfl | (simp; done) | (simp [*]; done), by repeat (first | exact Drawn0.refl _ | apply Drawn0.step)⟩
          · rw [if_neg c4] at H
            exact absurd H (by simp)
        · rw [if_neg c3] at H
          exact absurd H (by simp)
      · rw [if_neg c2] at H
        have c2b0 : decide (x9_1 < (l0.length : Int)) = false := decide_eq_false c2
        clear c2
        simp only [Option.some.injEq, Prod.mk.injEq] at H
        obtain ⟨rfl, rfl⟩ := H
        go_wp2
        go_ret2
        exact ⟨by first | rfl | (simp; done) | (simp [*]; done), by repeat (first | exact Drawn0.refl _ | apply Drawn0.step)⟩

end Go.Proofs.Ytlccomoiajnkmaa.PAll
end
section
namespace Go.Proofs.Ytlccomoiajnkmaa.PAll
open Go.RowKit Go.Proofs.YtlccomoiajnkmaaW.PrintWords Go.Proofs.YtlccomoiajnkmaaW.PrintLast Go.Proofs.YtlccomoiajnkmaaW.PrintMore
attribute [local go_sem] max2_int min2_int max_two min_two max_three min_three max_four min_four   -- for this text's walks alone
set_option linter.unusedVariables false
set_option linter.unusedSimpArgs false

def ledger_amounts.l0 : Nat → Bool → Int → List Int → List (S64) → Int → Int → Option (List Int)
  | 0, _, _, _, _, _, _ => none
  | k + 1, x1, x2, x7, x10, x11, x12 => if x12 < x11 then (if 0 ≤ x12 then (if x12 < (x10.length : Int) then (if x1 = true then (if x7.length < 17592186044416 then (ledger_amounts.l0 k x1 x2 (x7 ++ [(rd_T64 x10 x12).f1]) x10 x11 (wrap64 (x12 + 1))) else (none)) else (if ((rd_T64 x10 x12).f0) = x2 then (if x7.length < 17592186044416 then (ledger_amounts.l0 k x1 x2 (x7 ++ [(rd_T64 x10 x12).f1]) x10 x11 (wrap64 (x12 + 1))) else (none)) else (ledger_amounts.l0 k x1 x2 x7 x10 x11 (wrap64 (x12 + 1))))) else (none)) else (none)) else (some x7)
def ledger_amounts.f (k : Nat) (l0 : List (S64)) (a1 : Bool) (a2 : Int) : Option (List Int) := ledger_amounts.l0 k a1 a2 ([] : List Int) l0 (l0.length : Int) 0
theorem ledger_amounts.mono_l : ∀ k, (∀ y0 y1 y2 y3 y4 y5, LeO (ledger_amounts.l0 k y0 y1 y2 y3 y4 y5) (ledger_amounts.l0 (k + 1) y0 y1 y2 y3 y4 y5))
  | 0 => fun _ _ _ _ _ _ r h => by simp [ledger_amounts.l0] at h
  | k + 1 => by
    have ih0 := ledger_amounts.mono_l k
    · intro y0 y1 y2 y3 y4 y5
      unfold ledger_amounts.l0
      repeat' first
      | (with_reducible exact ih0 _ _ _ _ _ _)
      | (with_reducible exact LeO.refl _)
      | (with_reducible exact LeO.none _)
      | (with_reducible refine LeO.ite ?_ ?_)
      | (with_reducible refine LeO.bind ?_ (fun _ => ?_))
      | exact ih0 _ _ _ _ _ _
      | exact LeO.none _
      | refine LeO.ite ?_ ?_
      | refine LeO.bind ?_ (fun _ => ?_)
theorem ledger_amounts.mono : ∀ a0 a1 a2 k, LeO (ledger_amounts.f k a0 a1 a2) (ledger_amounts.f (k + 1) a0 a1 a2) := by
  intro a0 a1 a2 k
  have ih0 := ledger_amounts.mono_l k
  unfold ledger_amounts.f
  repeat' first
      | (with_reducible exact ih0 _ _ _ _ _ _)
      | (with_reducible exact LeO.refl _)
      | (with_reducible exact LeO.none _)
      | (with_reducible refine LeO.ite ?_ ?_)
      | (with_reducible refine LeO.bind ?_ (fun _ => ?_))
      | exact ih0 _ _ _ _ _ _
      | exact LeO.none _
      | refine LeO.ite ?_ ?_
      | refine LeO.bind ?_ (fun _ => ?_)
set_option maxHeartbeats 8000000 in
set_option maxRecDepth 100000 in
theorem ledger_amounts.calls (k : Nat) (A0 : Option Addr) (c0 : Nat) (l0 : List (S64)) (a1 : Bool) (a2 : Int) (r : List Int) (w : World) (hr0 : Kd.C k64 w A0 l0.length l0) (hc0 : l0.length ≤ c0) (h : ledger_amounts.f k l0 a1 a2 = some r) :
    Calls Try.prog 42 #[.slice A0 l0.length c0, .bool a1, .int .i64 a2] w fun e w' => ∃ v0_ : Value, e = .returned (v0_) ∧ Kd.R (Kd.int .i64) 3 w' w.heap.size (fun _ => True) v0_ r ∧ Below w.heap.size w w' := by
  have hu64 := Try.underlying64
  have HR0 := Aside0.mk hr0
  have HC0 := Aside0.mk hc0
  clear hr0 hc0
  have HB := Aside0.mk (Below.refl w.heap.size w)
  have H : (ledger_amounts.l0 k a1 a2 ([] : List Int) l0 (l0.length : Int) 0) = some r := h
  clear h
  have H' := Aside0.mk H
  clear H
  go_enter Try.func42, Try.ntmps42
  go_wp2
  go_loopg [7, 12] k (fun kq v7 v12 w' => ∃ (x7_1 : List Int) (x12_1 : Int), v12 = .int .i64 x12_1 ∧ Aside0 (ledger_amounts.l0 kq a1 a2 x7_1 l0 (l0.length : Int) x12_1 = some r) ∧ Aside0 (kq ≤ k) ∧ Aside0 (Kd.R (Kd.int .i64) 3 w' w.heap.size (fun _ => True) v7 x7_1) ∧ Aside0 (Below w.heap.size w w'))
  case atStart => exact ⟨(([] : List Int)), (0), (by first | rfl | (simp; done) | (simp [*]; done)), H', ⟨Nat.le_refl _⟩, ⟨by first | exact Kd.R_nil _ _ _ _ _ | exact Kd.N_nil _ _ _ _ _ | exact Kd.V_nil _ _ _ _ _ | exact Kd.Q_nil _ _ _ _ _ | exact Kd.S_nil _ _ _ _ _⟩, ⟨by repeat (first | (with_reducible first | exact HB.out | apply below_alloc | apply pw_below_drewN | apply below_drew1) | exact HB.out)⟩⟩
  case round =>
    clear H'
    try clear p2
    obtain ⟨x7_1, x12_1, rfl, HA, HK1, HO_7, HB⟩ := hrel
    cases gk with
    | zero => exact absurd HA.out (by simp [ledger_amounts.l0])
    | succ k1 =>
      have H := HA.out
      clear HA
      simp only [ledger_amounts.l0] at H
      by_cases c4 : x12_1 < (l0.length : Int)
      · rw [if_pos c4] at H
        have c4b0 : decide (x12_1 < (l0.length : Int)) = true := decide_eq_true c4
        clear c4
        by_cases c5 : 0 ≤ x12_1
        · rw [if_pos c5] at H
          have c5b0 : decide (0 ≤ x12_1) = true := decide_eq_true c5
          clear c5
          by_cases c6 : x12_1 < (l0.length : Int)
          · rw [if_pos c6] at H
            have c6b0 : decide (x12_1 < (l0.length : Int)) = true := decide_eq_true c6
            clear c6
            by_cases c7 : a1 = true
            · subst c7
              have H1 : (if x7_1.length < 17592186044416 then (ledger_amounts.l0 k1 true a2 (x7_1 ++ [(rd_T64 l0 x12_1).f1]) l0 (l0.length : Int) (wrap64 (x12_1 + 1))) else (none)) = some r := by rw [if_pos rfl] at H; exact H
              clear H
              have H := H1
              clear H1
              by_cases c8 : x7_1.length < 17592186044416
              · rw [if_pos c8] at H
                have LMc8 := Aside0.mk c8
                clear c8
                obtain ⟨y418, hy418⟩ : ∃ y_ : List Int, y_ = (x7_1 ++ [(rd_T64 l0 x12_1).f1]) := ⟨_, rfl⟩
                replace H : (ledger_amounts.l0 k1 true a2 y418 l0 (l0.length : Int) (wrap64 (x12_1 + 1))) = some r := by first | (rw [hy418]; with_reducible exact H) | (have H2_ := (Option.bind_some _ _).symm.trans H; rw [hy418]; with_reducible exact H2_) | (have H2_ := (Option.bind_some _ _).symm.trans H; with_reducible exact H2_) | with_reducible exact H | (rw [hy418]; exact H) | exact H
                have Ny418 := Aside0.mk hy418
                clear hy418
                have H' := Aside0.mk H
                clear H
                have p416 : 0 ≤ (x12_1 : Int) := of_decide_eq_true (by first | (with_reducible assumption) | assumption)
                have q416 : x12_1 < (l0.length : Int) := of_decide_eq_true (by first | (with_reducible assumption) | assumption)
                obtain ⟨ad416, e416, hx416_0, hx416_1⟩ := at_T64 HR0.out x12_1 p416 q416
                cases e416
                replace hx416_0 := (HB.out.cell (World.block_lt_of_cell? w _ hx416_0)).trans hx416_0
                replace hx416_1 := (HB.out.cell (World.block_lt_of_cell? w _ hx416_1)).trans hx416_1
                replace p416 := eq_true p416
                replace q416 := eq_true q416
                go_wp2_with (first | ((with_reducible refine gate_dst (N := 9) rfl ?_); refine box_event ?hg (N := 9) ?hd (cs := #[.int .i64 0, .int .i64 0]) (t := 64) ?hr ?_; (case hd => rfl); (case hg => rfl); (case hr => first | (go_simp; done) | (go_simp; rfl)); intro gb417 hg w9 hbox hb; have n0_ := Aside0.mk (Kd.R_below (by (with_reducible repeat (first | apply Kd.R_alloc | apply Kd.R_drewN | apply Kd.R_drew)); exact HO_7.out) hb); have n1_ := Aside0.mk (below_step (by repeat (first | (with_reducible first | exact HB.out | apply below_alloc | apply pw_below_drewN | apply below_drew1) | exact HB.out)) hb); have n2_ := Aside0.mk (hbox); have n3_ := Aside0.mk ((by rw [hg]; exact (below_size (by repeat (first | (with_reducible first | exact HB.out | apply below_alloc | apply pw_below_drewN | apply below_drew1) | exact HB.out))) : w.heap.size ≤ gb417)); have n4_ := Aside0.mk ((by rw [hg]; exact (below_size (by repeat (first | (with_reducible first | exact HB.out | apply below_alloc | apply pw_below_drewN | apply below_drew1) | exact HB.out))) : w.heap.size ≤ gb417)); clear HO_7; clear HB; have HO_7 := n0_; have HB := n1_; have BK417 := n2_; have GW417 := n3_; have GE417 := n4_; clear n0_ n1_ n2_ n3_ n4_; clear hb hbox hg; have hcz10_0 : w9.cell? ⟨gb417, 0, none⟩ = some (.int .i64 0) := (blk_cell BK417.out 0).trans rfl; have hcz10_1 : w9.cell? ⟨gb417, 1, none⟩ = some (.int .i64 0) := (blk_cell BK417.out 1).trans rfl; have hfz10_0 := blk_frozen BK417.out 0; have hfz10_1 := blk_frozen BK417.out 1) | ((with_reducible refine gate_builtin (b := .append) (xs := #[.tmp 23, .tmp 26]) rfl ?_); at_builtin; refine Kd.R_append (Kd.int .i64) (w0 := w) w.heap.size rfl (.tmp 23) (.tmp 26) 43 3 (.int .i64 0) 8 rfl Try.underlying43 info3 rfl (by decide) (by omega) u7 x7_1 ((rd_T64 l0 x12_1).f1) [.int .i64 ((rd_T64 l0 x12_1).f1)] (fun _ => True) (fun _ => False) rfl (by first | (go_simp; done) | (go_simp; rfl)) ?aP (fun _ hk => hk.elim) ?aF ?aO ?aB ?aS ?aL ?_; (case aP => exact rfl); (case aB => exact (by repeat (first | (with_reducible first | exact HB.out | apply below_alloc | apply pw_below_drewN | apply below_drew1 | refine below_set ?_ GE417.out) | exact HB.out))); (case aF => exact (fun _ _ => trivial)); (case aO => exact (by (with_reducible repeat (first | apply Kd.R_alloc | apply Kd.R_drewN | apply Kd.R_drew)); exact Kd.R_mono (Kd.R_fa gb417 1 (Kd.R_fa gb417 0 (Kd.R_types HO_7.out BK417.out (by decide)) (.int .i64 ((rd_T64 l0 x12_1).f0))) (.int .i64 ((rd_T64 l0 x12_1).f1))) (fun _ hk => trivial))); (case aS => exact (below_size (by repeat (first | (with_reducible first | exact HB.out | apply below_alloc | apply pw_below_drewN | apply below_drew1 | refine below_set ?_ GE417.out) | exact HB.out)))); (case aL => have := LMc8.out; omega); intro v419 w11 ho hb hg hat; rw [← Ny418.out] at ho; have n0_ := Aside0.mk (blk_grown (g := gb417) (o := .cells #[.int .i64 ((rd_T64 l0 x12_1).f0), .int .i64 ((rd_T64 l0 x12_1).f1)] 64 (0, 0)) (by (with_reducible repeat first | apply blk_drewN | apply blk_drew | apply blk_alloc); refine blk_put (cs := #[.int .i64 ((rd_T64 l0 x12_1).f0), .int .i64 0]) ?_ 1 _ rfl; (with_reducible repeat first | apply blk_drewN | apply blk_drew | apply blk_alloc); refine blk_put (cs := #[.int .i64 0, .int .i64 0]) ?_ 0 _ rfl; (with_reducible repeat first | apply blk_drewN | apply blk_drew | apply blk_alloc); exact BK417.out) hg (Kd.R_ne HO_7.out BK417.out (by decide))); have n1_ := Aside0.mk (hb); have n2_ := Aside0.mk (ho); clear BK417; clear HB; clear HO_7; have BK417 := n0_; have HB := n1_; have HO420 := n2_; clear n0_ n1_ n2_; clear ho hb hg hat))
                go_roundg k1
                case measure => have := HK1.out; omega
                case rel => exact ⟨(y418), (wrap64 (x12_1 + 1)), (by first | rfl | (simp; done) | (simp [*]; done)), H', ⟨by have := HK1.out; omega⟩, ⟨by (with_reducible repeat (first | apply Kd.R_alloc | apply Kd.R_drewN | apply Kd.R_drew)); exact HO420.out⟩, ⟨by repeat (first | (with_reducible first | exact HB.out | apply below_alloc | apply pw_below_drewN | apply below_drew1 | refine below_set ?_ GE417.out) | exact HB.out)⟩⟩
              · rw [if_neg c8] at H
                exact absurd H (by simp)
            · replace c7 := Bool.eq_false_iff.mpr c7
              subst c7
              have H1 : (if ((rd_T64 l0 x12_1).f0) = a2 then (if x7_1.length < 17592186044416 then (ledger_amounts.l0 k1 false a2 (x7_1 ++ [(rd_T64 l0 x12_1).f1]) l0 (l0.length : Int) (wrap64 (x12_1 + 1))) else (none)) else (ledger_amounts.l0 k1 false a2 x7_1 l0 (l0.length : Int) (wrap64 (x12_1 + 1)))) = some r := by rw [if_neg (show ¬ (false = true) by decide)] at H; exact H
              clear H
              have H := H1
              clear H1
              by_cases c12 : ((rd_T64 l0 x12_1).f0) = a2
              · rw [if_pos c12] at H
                have c12b0 : (((rd_T64 l0 x12_1).f0) == a2) = true := beq_iff_eq.mpr c12
                have c12b1 : (((rd_T64 l0 x12_1).f0) != a2) = false := bne_eq_false_iff_eq.mpr c12
                clear c12
                by_cases c13 : x7_1.length < 17592186044416
                · rw [if_pos c13] at H
                  have LMc13 := Aside0.mk c13
                  clear c13
                  obtain ⟨y421, hy421⟩ : ∃ y_ : List Int, y_ = (x7_1 ++ [(rd_T64 l0 x12_1).f1]) := ⟨_, rfl⟩
                  replace H : (ledger_amounts.l0 k1 false a2 y421 l0 (l0.length : Int) (wrap64 (x12_1 + 1))) = some r := by first | (rw [hy421]; with_reducible exact H) | (have H2_ := (Option.bind_some _ _).symm.trans H; rw [hy421]; with_reducible exact H2_) | (have H2_ := (Option.bind_some _ _).symm.trans H; with_reducible exact H2_) | with_reducible exact H | (rw [hy421]; exact H) | exact H
                  have Ny421 := Aside0.mk hy421
                  clear hy421
                  have H' := Aside0.mk H
                  clear H
                  have p416 : 0 ≤ (x12_1 : Int) := of_decide_eq_true (by first | (with_reducible assumption) | assumption)
                  have q416 : x12_1 < (l0.length : Int) := of_decide_eq_true (by first | (with_reducible assumption) | assumption)
                  obtain ⟨ad416, e416, hx416_0, hx416_1⟩ := at_T64 HR0.out x12_1 p416 q416
                  cases e416
                  replace hx416_0 := (HB.out.cell (World.block_lt_of_cell? w _ hx416_0)).trans hx416_0
                  replace hx416_1 := (HB.out.cell (World.block_lt_of_cell? w _ hx416_1)).trans hx416_1
                  replace p416 := eq_true p416
                  replace q416 := eq_true q416
                  go_wp2_with (first | ((with_reducible refine gate_dst (N := 9) rfl ?_); refine box_event ?hg (N := 9) ?hd (cs := #[.int .i64 0, .int .i64 0]) (t := 64) ?hr ?_; (case hd => rfl); (case hg => rfl); (case hr => first | (go_simp; done) | (go_simp; rfl)); intro gb417 hg w14 hbox hb; have n0_ := Aside0.mk (Kd.R_below (by (with_reducible repeat (first | apply Kd.R_alloc | apply Kd.R_drewN | apply Kd.R_drew)); exact HO_7.out) hb); have n1_ := Aside0.mk (below_step (by repeat (first | (with_reducible first | exact HB.out | apply below_alloc | apply pw_below_drewN | apply below_drew1) | exact HB.out)) hb); have n2_ := Aside0.mk (hbox); have n3_ := Aside0.mk ((by rw [hg]; exact (below_size (by repeat (first | (with_reducible first | exact HB.out | apply below_alloc | apply pw_below_drewN | apply below_drew1) | exact HB.out))) : w.heap.size ≤ gb417)); have n4_ := Aside0.mk ((by rw [hg]; exact (below_size (by repeat (first | (with_reducible first | exact HB.out | apply below_alloc | apply pw_below_drewN | apply below_drew1) | exact HB.out))) : w.heap.size ≤ gb417)); clear HO_7; clear HB; have HO_7 := n0_; have HB := n1_; have BK417 := n2_; have GW417 := n3_; have GE417 := n4_; clear n0_ n1_ n2_ n3_ n4_; clear hb hbox hg; have hcz15_0 : w14.cell? ⟨gb417, 0, none⟩ = some (.int .i64 0) := (blk_cell BK417.out 0).trans rfl; have hcz15_1 : w14.cell? ⟨gb417, 1, none⟩ = some (.int .i64 0) := (blk_cell BK417.out 1).trans rfl; have hfz15_0 := blk_frozen BK417.out 0; have hfz15_1 := blk_frozen BK417.out 1) | ((with_reducible refine gate_builtin (b := .append) (xs := #[.tmp 23, .tmp 26]) rfl ?_); at_builtin; refine Kd.R_append (Kd.int .i64) (w0 := w) w.heap.size rfl (.tmp 23) (.tmp 26) 43 3 (.int .i64 0) 8 rfl Try.underlying43 info3 rfl (by decide) (by omega) u7 x7_1 ((rd_T64 l0 x12_1).f1) [.int .i64 ((rd_T64 l0 x12_1).f1)] (fun _ => True) (fun _ => False) rfl (by first | (go_simp; done) | (go_simp; rfl)) ?aP (fun _ hk => hk.elim) ?aF ?aO ?aB ?aS ?aL ?_; (case aP => exact rfl); (case aB => exact (by repeat (first | (with_reducible first | exact HB.out | apply below_alloc | apply pw_below_drewN | apply below_drew1 | refine below_set ?_ GE417.out) | exact HB.out))); (case aF => exact (fun _ _ => trivial)); (case aO => exact (by (with_reducible repeat (first | apply Kd.R_alloc | apply Kd.R_drewN | apply Kd.R_drew)); exact Kd.R_mono (Kd.R_fa gb417 1 (Kd.R_fa gb417 0 (Kd.R_types HO_7.out BK417.out (by decide)) (.int .i64 ((rd_T64 l0 x12_1).f0))) (.int .i64 ((rd_T64 l0 x12_1).f1))) (fun _ hk => trivial))); (case aS => exact (below_size (by repeat (first | (with_reducible first | exact HB.out | apply below_alloc | apply pw_below_drewN | apply below_drew1 | refine below_set ?_ GE417.out) | exact HB.out)))); (case aL => have := LMc13.out; omega); intro v422 w16 ho hb hg hat; rw [← Ny421.out] at ho; have n0_ := Aside0.mk (blk_grown (g := gb417) (o := .cells #[.int .i64 ((rd_T64 l0 x12_1).f0), .int .i64 ((rd_T64 l0 x12_1).f1)] 64 (0, 0)) (by (with_reducible repeat first | apply blk_drewN | apply blk_drew | apply blk_alloc); refine blk_put (cs := #[.int .i64 ((rd_T64 l0 x12_1).f0), .int .i64 0]) ?_ 1 _ rfl; (with_reducible repeat first | apply blk_drewN | apply blk_drew | apply blk_alloc); refine blk_put (cs := #[.int .i64 0, .int .i64 0]) ?_ 0 _ rfl; (with_reducible repeat first | apply blk_drewN | apply blk_drew | apply blk_alloc); exact BK417.out) hg (Kd.R_ne HO_7.out BK417.out (by decide))); have n1_ := Aside0.mk (hb); have n2_ := Aside0.mk (ho); clear BK417; clear HB; clear HO_7; have BK417 := n0_; have HB := n1_; have HO423 := n2_; clear n0_ n1_ n2_; clear ho hb hg hat))
                  go_roundg k1
                  case measure => have := HK1.out; omega
                  case rel => exact ⟨(y421), (wrap64 (x12_1 + 1)), (by first | rfl | (simp; done) | (simp [*]; done)), H', ⟨by have := HK1.out; omega⟩, ⟨by (with_reducible repeat (first | apply Kd.R_alloc | apply Kd.R_drewN | apply Kd.R_drew)); exact HO423.out⟩, ⟨by repeat (first | (with_reducible first | exact HB.out | apply below_alloc | apply pw_below_drewN | apply below_drew1 | refine below_set ?_ GE417.out) | exact HB.out)⟩⟩
                · rw [if_neg c13] at H
                  exact absurd H (by simp)
              · rw [if_neg c12] at H
                have c12b0 : (((rd_T64 l0 x12_1).f0) == a2) = false := beq_eq_false_iff_ne.mpr c12
                have c12b1 : (((rd_T64 l0 x12_1).f0) != a2) = true := bne_iff_ne.mpr c12
                have H' := Aside0.mk H
                clear H
                have p416 : 0 ≤ (x12_1 : Int) := of_decide_eq_true (by first | (with_reducible assumption) | assumption)
                have q416 : x12_1 < (l0.length : Int) := of_decide_eq_true (by first | (with_reducible assumption) | assumption)
                obtain ⟨ad416, e416, hx416_0, hx416_1⟩ := at_T64 HR0.out x12_1 p416 q416
                cases e416
                replace hx416_0 := (HB.out.cell (World.block_lt_of_cell? w _ hx416_0)).trans hx416_0
                replace hx416_1 := (HB.out.cell (World.block_lt_of_cell? w _ hx416_1)).trans hx416_1
                replace p416 := eq_true p416
                replace q416 := eq_true q416
                go_wp2_with (first | ((with_reducible refine gate_dst (N := 9) rfl ?_); refine box_event ?hg (N := 9) ?hd (cs := #[.int .i64 0, .int .i64 0]) (t := 64) ?hr ?_; (case hd => rfl); (case hg => rfl); (case hr => first | (go_simp; done) | (go_simp; rfl)); intro gb417 hg w17 hbox hb; have n0_ := Aside0.mk (Kd.R_below (by (with_reducible repeat (first | apply Kd.R_alloc | apply Kd.R_drewN | apply Kd.R_drew)); exact HO_7.out) hb); have n1_ := Aside0.mk (below_step (by repeat (first | (with_reducible first | exact HB.out | apply below_alloc | apply pw_below_drewN | apply below_drew1) | exact HB.out)) hb); have n2_ := Aside0.mk (hbox); have n3_ := Aside0.mk ((by rw [hg]; exact (below_size (by repeat (first | (with_reducible first | exact HB.out | apply below_alloc | apply pw_below_drewN | apply below_drew1) | exact HB.out))) : w.heap.size ≤ gb417)); have n4_ := Aside0.mk ((by rw [hg]; exact (below_size (by repeat (first | (with_reducible first | exact HB.out | apply below_alloc | apply pw_below_drewN | apply below_drew1) | exact HB.out))) : w.heap.size ≤ gb417)); clear HO_7; clear HB; have HO_7 := n0_; have HB := n1_; have BK417 := n2_; have GW417 := n3_; have GE417 := n4_; clear n0_ n1_ n2_ n3_ n4_; clear hb hbox hg; have hcz18_0 : w17.cell? ⟨gb417, 0, none⟩ = some (.int .i64 0) := (blk_cell BK417.out 0).trans rfl; have hcz18_1 : w17.cell? ⟨gb417, 1, none⟩ = some (.int .i64 0) := (blk_cell BK417.out 1).trans rfl; have hfz18_0 := blk_frozen BK417.out 0; have hfz18_1 := blk_frozen BK417.out 1))
                go_roundg k1
                case measure => have := HK1.out; omega
                case rel => exact ⟨(x7_1), (wrap64 (x12_1 + 1)), (by first | rfl | (simp; done) | (simp [*]; done)), H', ⟨by have := HK1.out; omega⟩, ⟨by (with_reducible repeat (first | apply Kd.R_alloc | apply Kd.R_drewN | apply Kd.R_drew)); exact Kd.R_mono (Kd.R_fa gb417 1 (Kd.R_fa gb417 0 (Kd.R_types HO_7.out BK417.out (by decide)) (.int .i64 ((rd_T64 l0 x12_1).f0))) (.int .i64 ((rd_T64 l0 x12_1).f1))) (fun _ hk => trivial)⟩, ⟨by repeat (first | (with_reducible first | exact HB.out | apply below_alloc | apply pw_below_drewN | apply below_drew1 | refine below_set ?_ GE417.out) | exact HB.out)⟩⟩
          · rw [if_neg c6] at H
            exact absurd H (by simp)
        · rw [if_neg c5] at H
          exact absurd H (by simp)
      · rw [if_neg c4] at H
        have c4b0 : decide (x12_1 < (l0.length : Int)) = false := decide_eq_false c4
        clear c4
        obtain rfl := Option.some.inj H
        go_wp2
        go_ret
        exact ⟨_, by first | rfl | (simp [errW_none, errW_some] <;> rfl) | (simp [*, errW_none, errW_some] <;> rfl), by (with_reducible repeat (first | apply Kd.R_alloc | apply Kd.R_drewN | apply Kd.R_drew)); exact HO_7.out, by repeat (first | (with_reducible first | exact HB.out | apply below_alloc | apply pw_below_drewN | apply below_drew1) | exact HB.out)⟩

end Go.Proofs.Ytlccomoiajnkmaa.PAll
end
section
namespace Go.Proofs.Ytlccomoiajnkmaa.PAll
open Go.RowKit Go.Proofs.YtlccomoiajnkmaaW.PrintWords Go.Proofs.YtlccomoiajnkmaaW.PrintLast Go.Proofs.YtlccomoiajnkmaaW.PrintMore
attribute [local go_sem] max2_int min2_int max_two min_two max_three min_three max_four min_four   -- for this text's walks alone
set_option linter.unusedVariables false
set_option linter.unusedSimpArgs false

theorem place_world (p : Option Addr) (A : Option Addr) (n c : Nat) (w : World) :
    Calls Try.prog 43 #[.pointer p, .slice A n c, .int .i64 0] w fun e w' => e = .returned (.pointer p) ∧ w' = w := by
  go_enter Try.func43, Try.ntmps43
  go_wp2
  go_ret
  exact ⟨rfl, rfl⟩
theorem place_neg (p : Option Addr) (A : Option Addr) (n c : Nat) (acct : Int) (w : World) (h : acct < 0) :
    Calls Try.prog 43 #[.pointer p, .slice A n c, .int .i64 acct] w fun e w' => e = .returned (.pointer none) ∧ w' = w := by
  have c1 : (acct == 0) = false := beq_eq_false_iff_ne.mpr (by omega)
  have c2 : decide (acct < 0) = true := decide_eq_true h
  go_enter Try.func43, Try.ntmps43
  go_wp2
  go_ret
  exact ⟨rfl, rfl⟩
theorem place_past (p : Option Addr) (A : Option Addr) (n c : Nat) (acct : Int) (w : World) (h : 0 < acct) (h1 : acct < 9223372036854775808) (h2 : 3 * (n : Int) < acct) :
    Calls Try.prog 43 #[.pointer p, .slice A n c, .int .i64 acct] w fun e w' => e = .returned (.pointer none) ∧ w' = w := by
  have c1 : (acct == 0) = false := beq_eq_false_iff_ne.mpr (by omega)
  have c2 : decide (acct < 0) = false := decide_eq_false (by omega)
  have c3 : decide ((n : Int) ≤ wrap64 (Int.tdiv (wrap64 (acct - 1)) 3)) = true := by
    have e1 : wrap64 (acct - 1) = acct - 1 := by unfold wrap64; omega
    rw [e1, Int.tdiv_eq_ediv_of_nonneg (by omega)]
    have e2 : wrap64 ((acct - 1) / 3) = (acct - 1) / 3 := by unfold wrap64; omega
    rw [e2]; exact decide_eq_true (by omega)
  go_enter Try.func43, Try.ntmps43
  go_wp2
  go_ret
  exact ⟨rfl, rfl⟩
theorem place_at0 (p : Option Addr) (ad : Addr) (n c : Nat) (acct : Int) (j : Nat) (w : World) (h : acct = 1 + 3 * (j : Int)) (hj : j < n) (hn : n < 1000000) :
    Calls Try.prog 43 #[.pointer p, .slice (some ad) n c, .int .i64 acct] w fun e w' => e = .returned (.pointer (some ⟨(ad.add (j * 6)).block, (ad.add (j * 6)).off + 3, none⟩)) ∧ Below w.heap.size w w' := by
  have c1 : (acct == 0) = false := beq_eq_false_iff_ne.mpr (by omega)
  have c2 : decide (acct < 0) = false := decide_eq_false (by omega)
  have w1 : wrap64 (acct - 1) = 3 * (j : Int) := by unfold wrap64; omega
  have w2 : (3 * (j : Int)).tdiv 3 = (j : Int) := by rw [Int.tdiv_eq_ediv_of_nonneg (by omega)]; omega
  have w3 : wrap64 (j : Int) = (j : Int) := by unfold wrap64; omega
  have w4 : (3 * (j : Int)).tmod 3 = 0 := by rw [Int.tmod_eq_emod_of_nonneg (by omega)]; omega
  have c3 : decide ((n : Int) ≤ (j : Int)) = false := decide_eq_false (by omega)
  have c4 : decide (n ≤ j) = false := decide_eq_false (by omega)
  have c5 : (0 ≤ (j : Int)) = True := eq_true (by omega)
  have c6 : ((j : Int) < (n : Int)) = True := eq_true (by omega)
  have c7 : (j < n) = True := eq_true hj
  clear h hj hn
  go_enter Try.func43, Try.ntmps43
  go_wp2
  go_region
  all_goals go_wp2
  all_goals go_ret
  all_goals exact ⟨rfl, by repeat (first | exact Below.refl _ _ | apply below_drew1 | apply below_alloc | apply pw_below_drewN)⟩
theorem place_at1 (p : Option Addr) (ad : Addr) (n c : Nat) (acct : Int) (j : Nat) (w : World) (h : acct = 1 + 3 * (j : Int) + 1) (hj : j < n) (hn : n < 1000000) :
    Calls Try.prog 43 #[.pointer p, .slice (some ad) n c, .int .i64 acct] w fun e w' => e = .returned (.pointer (some ⟨(ad.add (j * 6)).block, (ad.add (j * 6)).off + 4, none⟩)) ∧ Below w.heap.size w w' := by
  have c1 : (acct == 0) = false := beq_eq_false_iff_ne.mpr (by omega)
  have c2 : decide (acct < 0) = false := decide_eq_false (by omega)
  have w1 : wrap64 (acct - 1) = 3 * (j : Int) + 1 := by unfold wrap64; omega
  have w2 : (3 * (j : Int) + 1).tdiv 3 = (j : Int) := by rw [Int.tdiv_eq_ediv_of_nonneg (by omega)]; omega
  have w3 : wrap64 (j : Int) = (j : Int) := by unfold wrap64; omega
  have w4 : (3 * (j : Int) + 1).tmod 3 = 1 := by rw [Int.tmod_eq_emod_of_nonneg (by omega)]; omega
  have c3 : decide ((n : Int) ≤ (j : Int)) = false := decide_eq_false (by omega)
  have c4 : decide (n ≤ j) = false := decide_eq_false (by omega)
  have c5 : (0 ≤ (j : Int)) = True := eq_true (by omega)
  have c6 : ((j : Int) < (n : Int)) = True := eq_true (by omega)
  have c7 : (j < n) = True := eq_true hj
  clear h hj hn
  go_enter Try.func43, Try.ntmps43
  go_wp2
  go_region
  all_goals go_wp2
  all_goals go_ret
  all_goals exact ⟨rfl, by repeat (first | exact Below.refl _ _ | apply below_drew1 | apply below_alloc | apply pw_below_drewN)⟩
theorem place_at2 (p : Option Addr) (ad : Addr) (n c : Nat) (acct : Int) (j : Nat) (w : World) (h : acct = 1 + 3 * (j : Int) + 2) (hj : j < n) (hn : n < 1000000) :
    Calls Try.prog 43 #[.pointer p, .slice (some ad) n c, .int .i64 acct] w fun e w' => e = .returned (.pointer (some ⟨(ad.add (j * 6)).block, (ad.add (j * 6)).off + 5, none⟩)) ∧ Below w.heap.size w w' := by
  have c1 : (acct == 0) = false := beq_eq_false_iff_ne.mpr (by omega)
  have c2 : decide (acct < 0) = false := decide_eq_false (by omega)
  have w1 : wrap64 (acct - 1) = 3 * (j : Int) + 2 := by unfold wrap64; omega
  have w2 : (3 * (j : Int) + 2).tdiv 3 = (j : Int) := by rw [Int.tdiv_eq_ediv_of_nonneg (by omega)]; omega
  have w3 : wrap64 (j : Int) = (j : Int) := by unfold wrap64; omega
  have w4 : (3 * (j : Int) + 2).tmod 3 = 2 := by rw [Int.tmod_eq_emod_of_nonneg (by omega)]; omega
  have c3 : decide ((n : Int) ≤ (j : Int)) = false := decide_eq_false (by omega)
  have c4 : decide (n ≤ j) = false := decide_eq_false (by omega)
  have c5 : (0 ≤ (j : Int)) = True := eq_true (by omega)
  have c6 : ((j : Int) < (n : Int)) = True := eq_true (by omega)
  have c7 : (j < n) = True := eq_true hj
  clear h hj hn
  go_enter Try.func43, Try.ntmps43
  go_wp2
  go_region
  all_goals go_wp2
  all_goals go_ret
  all_goals exact ⟨rfl, by repeat (first | exact Below.refl _ _ | apply below_drew1 | apply below_alloc | apply pw_below_drewN)⟩
theorem place_no (p : Option Addr) (A : Option Addr) (n c : Nat) (acct : Int) (w : World) (h : ¬ (0 ≤ acct ∧ acct ≤ 3 * (n : Int))) (hi : acct ≤ 9223372036854775807) :
    Calls Try.prog 43 #[.pointer p, .slice A n c, .int .i64 acct] w fun e w' => e = .returned (.pointer none) ∧ Below w.heap.size w w' := by
  by_cases n0 : acct < 0
  · exact (place_neg p A n c acct w n0).mono fun e w' h => ⟨h.1, h.2 ▸ Below.refl _ _⟩
  · exact (place_past p A n c acct w (by omega) (by omega) (by omega)).mono fun e w' h => ⟨h.1, h.2 ▸ Below.refl _ _⟩
theorem place_yes (q : Addr) (A : Option Addr) (n c : Nat) (acct : Int) (w : World) (h : 0 ≤ acct ∧ acct ≤ 3 * (n : Int)) (hn : n < 1000000) (hA : 0 < n → ∃ ad, A = some ad) :
    ∃ q2, Calls Try.prog 43 #[.pointer (some q), .slice A n c, .int .i64 acct] w fun e w' => e = .returned (.pointer (some q2)) ∧ Below w.heap.size w w' := by
  by_cases z : acct = 0
  · subst z
    exact ⟨q, (place_world _ A n c w).mono fun e w' h => ⟨h.1, h.2 ▸ Below.refl _ _⟩⟩
  · obtain ⟨ad, rfl⟩ := hA (by omega)
    obtain ⟨j, hj⟩ : ∃ j : Nat, (acct - 1) / 3 = (j : Int) := ⟨((acct - 1) / 3).toNat, by omega⟩
    have hm : (acct - 1) % 3 = 0 ∨ (acct - 1) % 3 = 1 ∨ (acct - 1) % 3 = 2 := by omega
    rcases hm with hm | hm | hm
    · exact ⟨_, place_at0 _ ad n c acct j w (by omega) (by omega) hn⟩
    · exact ⟨_, place_at1 _ ad n c acct j w (by omega) (by omega) hn⟩
    · exact ⟨_, place_at2 _ ad n c acct j w (by omega) (by omega) hn⟩
end Go.Proofs.Ytlccomoiajnkmaa.PAll
end
section
namespace Go.Proofs.Ytlccomoiajnkmaa.PAll
open Go.RowKit Go.Proofs.YtlccomoiajnkmaaW.PrintWords Go.Proofs.YtlccomoiajnkmaaW.PrintLast Go.Proofs.YtlccomoiajnkmaaW.PrintMore
attribute [local go_sem] max2_int min2_int max_two min_two max_three min_three max_four min_four   -- for this text's walks alone
set_option linter.unusedVariables false
set_option linter.unusedSimpArgs false

def ledger_may.fin (k : Nat) (l2 : List S64) : Option Int := if l2.length = 0 ∨ 64 < l2.length then some 3 else (ledger_amounts.f k l2 true 0).bind fun t => (money_Add.f k t).bind fun p => some (if p.2 = 0 ∧ p.1 ≠ 0 then 3 else p.2)
def ledger_may.l0 : Nat → List S46 → List S64 → Int → Option Int
  | 0, _, _, _ => none
  | k + 1, l1, l2, i => if i < (l2.length : Int) then (if 0 ≤ i then (if (rd_T64 l2 i).f0 ≤ 9223372036854775807 then (if 0 ≤ (rd_T64 l2 i).f0 ∧ (rd_T64 l2 i).f0 ≤ 3 * (l1.length : Int) then (if (rd_T64 l2 i).f1 = 0 then some 3 else ledger_may.l0 k l1 l2 (wrap64 (i + 1))) else some 4) else none) else none) else ledger_may.fin k l2
def ledger_may.f (k : Nat) (a0 : Int) (l1 : List S46) (l2 : List S64) : Option Int := if l1.length < 1000000 then ledger_may.l0 k l1 l2 0 else none
theorem ledger_may.mono_f (k : Nat) (l2 : List S64) : LeO (ledger_may.fin k l2) (ledger_may.fin (k + 1) l2) := by
      unfold ledger_may.fin
      repeat' first
      | (with_reducible exact ledger_amounts.mono _ _ _ _)
      | (with_reducible exact money_Add.mono _ _)
      | (with_reducible exact LeO.refl _)
      | (with_reducible exact LeO.none _)
      | (with_reducible refine LeO.ite ?_ ?_)
      | (with_reducible refine LeO.bind ?_ (fun _ => ?_))
      | exact LeO.none _
      | refine LeO.ite ?_ ?_
      | exact LeO.refl _
theorem ledger_may.mono_l : ∀ k y0 y1 y2, LeO (ledger_may.l0 k y0 y1 y2) (ledger_may.l0 (k + 1) y0 y1 y2)
  | 0 => fun _ _ _ r h => by simp [ledger_may.l0] at h
  | k + 1 => by
    have ih := ledger_may.mono_l k
    · intro y0 y1 y2
      unfold ledger_may.l0
      repeat' first
      | (with_reducible exact ih _ _ _)
      | (with_reducible exact ledger_may.mono_f _ _)
      | (with_reducible exact LeO.refl _)
      | (with_reducible exact LeO.none _)
      | (with_reducible refine LeO.ite ?_ ?_)
      | (with_reducible refine LeO.bind ?_ (fun _ => ?_))
      | exact LeO.none _
      | refine LeO.ite ?_ ?_
      | exact LeO.refl _
theorem ledger_may.mono : ∀ a0 a1 a2 k, LeO (ledger_may.f k a0 a1 a2) (ledger_may.f (k + 1) a0 a1 a2) := by
  intro a0 a1 a2 k
  unfold ledger_may.f
  repeat' first
      | (with_reducible exact ledger_may.mono_l _ _ _ _)
      | (with_reducible exact LeO.refl _)
      | (with_reducible exact LeO.none _)
      | (with_reducible refine LeO.ite ?_ ?_)
      | (with_reducible refine LeO.bind ?_ (fun _ => ?_))
      | exact LeO.none _
      | refine LeO.ite ?_ ?_
      | exact LeO.refl _
set_option maxHeartbeats 8000000 in
set_option maxRecDepth 100000 in
theorem ledger_may.calls (k : Nat) (a0 : Int) (A1 : Option Addr) (c1 : Nat) (l1 : List S46) (A2 : Option Addr) (c2 : Nat) (l2 : List S64) (r : Int) (w : World) (hr1 : Kd.C k46 w A1 l1.length l1) (hc1 : l1.length ≤ c1) (hr2 : Kd.C k64 w A2 l2.length l2) (hc2 : l2.length ≤ c2) (h : ledger_may.f k a0 l1 l2 = some r) :
    Calls Try.prog 39 #[.int .i64 a0, .slice A1 l1.length c1, .slice A2 l2.length c2] w fun e w' => e = .returned (.int .i64 r) ∧ Below w.heap.size w w' := by
  have hu37 := Try.underlying64
  have HR1 := Aside0.mk hr1
  have HR2 := Aside0.mk hr2
  have HC2 := Aside0.mk hc2
  have HA : Aside0 (0 < l1.length → ∃ ad, A1 = some ad) := ⟨fun hp => by obtain ⟨ad, e, _⟩ := at_T46 hr1 0 (by omega) (by omega); exact ⟨ad, e⟩⟩
  have HB := Aside0.mk (below_alloc (Below.refl w.heap.size w) (.cells #[.int .i64 a0] 3 (0, 0)))
  unfold ledger_may.f at h
  by_cases c0 : l1.length < 1000000
  · rw [if_pos c0] at h
    have H' := Aside0.mk h
    have HN := Aside0.mk c0
    clear h hr1 hc1 hr2 hc2 c0
    go_enter Try.func39, Try.ntmps39
    go_wp2
    go_loopg [13] k (fun kq v13 wc => ∃ x13 : Int, v13 = .int .i64 x13 ∧ Aside0 (ledger_may.l0 kq l1 l2 x13 = some r) ∧ Aside0 (Below w.heap.size w wc))
    case atStart => exact ⟨0, rfl, H', HB⟩
    case round =>
      clear H' HB
      obtain ⟨x13, rfl, HH, HB⟩ := hrel
      cases gk with
      | zero => exact absurd HH.out (by simp [ledger_may.l0])
      | succ k1 =>
        have H := HH.out
        clear HH
        simp only [ledger_may.l0] at H
        by_cases c3 : x13 < (l2.length : Int)
        · rw [if_pos c3] at H
          have q154 := c3
          have c3b0 : decide (x13 < (l2.length : Int)) = true := decide_eq_true c3
          clear c3
          by_cases c4 : 0 ≤ x13
          · rw [if_pos c4] at H
            have p154 := c4
            have c4b0 : decide (0 ≤ x13) = true := decide_eq_true c4
            clear c4
            obtain ⟨ad154, e154, hx154_0, hx154_1⟩ := at_T64 HR2.out x13 p154 q154
            cases e154
            replace hx154_0 := (HB.out.cell (World.block_lt_of_cell? w _ hx154_0)).trans hx154_0
            replace hx154_1 := (HB.out.cell (World.block_lt_of_cell? w _ hx154_1)).trans hx154_1
            replace p154 := eq_true p154
            replace q154 := eq_true q154
            by_cases c5 : (rd_T64 l2 x13).f0 ≤ 9223372036854775807
            · rw [if_pos c5] at H
              have c5b := Aside0.mk c5
              clear c5
              by_cases c6 : 0 ≤ (rd_T64 l2 x13).f0 ∧ (rd_T64 l2 x13).f0 ≤ 3 * (l1.length : Int)
              · rw [if_pos c6] at H
                have c6b := Aside0.mk c6
                clear c6
                by_cases c7 : (rd_T64 l2 x13).f1 = 0
                · rw [if_pos c7] at H
                  obtain rfl := Option.some.inj H
                  have c7b : ((rd_T64 l2 x13).f1 == 0) = true := beq_iff_eq.mpr c7
                  clear c7 H
                  obtain ⟨q2, HQ⟩ : ∃ q2 : World → Addr, Aside0 (∀ W, Calls Try.prog 43 #[.pointer (some ⟨w.heap.size, 0, none⟩), .slice A1 l1.length c1, .int .i64 (rd_T64 l2 x13).f0] W fun e w' => e = .returned (.pointer (some (q2 W))) ∧ Below W.heap.size W w') := ⟨fun W => Classical.choose (place_yes ⟨w.heap.size, 0, none⟩ A1 l1.length c1 (rd_T64 l2 x13).f0 W c6b.out HN.out HA.out), ⟨fun W => Classical.choose_spec (place_yes ⟨w.heap.size, 0, none⟩ A1 l1.length c1 (rd_T64 l2 x13).f0 W c6b.out HN.out HA.out)⟩⟩
                  go_wp2_with (first | ((with_reducible refine gate_dst (N := 8) rfl ?_); refine box_event ?hg (N := 8) ?hd (cs := #[.int .i64 0, .int .i64 0]) (t := 64) ?hr ?_; (case hd => rfl); (case hg => rfl); (case hr => first | (go_simp; done) | (go_simp; rfl)); intro gb155 hg w7 hbox hb; have n0_ := Aside0.mk (below_step (by repeat (first | (with_reducible first | exact HB.out | apply below_alloc | apply pw_below_drewN | apply below_drew1) | exact HB.out)) hb); have n1_ := Aside0.mk (hbox); have n2_ := Aside0.mk ((by rw [hg]; exact (below_size (by repeat (first | (with_reducible first | exact HB.out | apply below_alloc | apply pw_below_drewN | apply below_drew1) | exact HB.out)))) : w.heap.size ≤ gb155); clear HB; have HB := n0_; have BK155 := n1_; have GE155 := n2_; clear n0_ n1_ n2_; clear hb hbox hg; have hcz13_0 : w7.cell? ⟨gb155, 0, none⟩ = some (.int .i64 0) := (blk_cell BK155.out 0).trans rfl; have hcz13_1 : w7.cell? ⟨gb155, 1, none⟩ = some (.int .i64 0) := (blk_cell BK155.out 1).trans rfl; have hfz13_0 := blk_frozen BK155.out 0; have hfz13_1 := blk_frozen BK155.out 1) | (go_at_call 43; with_reducible refine (HQ.out _).mono ?_; rintro e w14 ⟨rfl, hb⟩; have n0_ := Aside0.mk (blk_below (g := gb155) (o := .cells #[.int .i64 ((rd_T64 l2 x13).f0), .int .i64 ((rd_T64 l2 x13).f1)] 64 (0, 0)) (by (with_reducible repeat first | apply blk_drewN | apply blk_drew | apply blk_alloc); refine blk_put (cs := #[.int .i64 ((rd_T64 l2 x13).f0), .int .i64 0]) ?_ 1 _ rfl; (with_reducible repeat first | apply blk_drewN | apply blk_drew | apply blk_alloc); refine blk_put (cs := #[.int .i64 0, .int .i64 0]) ?_ 0 _ rfl; (with_reducible repeat first | apply blk_drewN | apply blk_drew | apply blk_alloc); exact BK155.out) hb); have n1_ := Aside0.mk (below_step (by repeat (first | (with_reducible first | exact HB.out | apply below_alloc | apply pw_below_drewN | apply below_drew1 | refine below_set ?_ GE155.out) | exact HB.out)) hb); clear BK155; clear HB; have BK155 := n0_; have HB := n1_; clear n0_ n1_; (try clear hb); have hcz15_0 : w14.cell? ⟨gb155, 0, none⟩ = some (.int .i64 ((rd_T64 l2 x13).f0)) := (blk_cell BK155.out 0).trans rfl; have hcz15_1 : w14.cell? ⟨gb155, 1, none⟩ = some (.int .i64 ((rd_T64 l2 x13).f1)) := (blk_cell BK155.out 1).trans rfl))
                  go_ret
                  exact ⟨rfl, by repeat (first | (with_reducible first | exact HB.out | apply below_alloc | apply pw_below_drewN | apply below_drew1 | refine below_set ?_ GE155.out) | exact HB.out)⟩
                · rw [if_neg c7] at H
                  have c7b : ((rd_T64 l2 x13).f1 == 0) = false := beq_eq_false_iff_ne.mpr c7
                  have H' := Aside0.mk H
                  clear c7 H
                  obtain ⟨q2, HQ⟩ : ∃ q2 : World → Addr, Aside0 (∀ W, Calls Try.prog 43 #[.pointer (some ⟨w.heap.size, 0, none⟩), .slice A1 l1.length c1, .int .i64 (rd_T64 l2 x13).f0] W fun e w' => e = .returned (.pointer (some (q2 W))) ∧ Below W.heap.size W w') := ⟨fun W => Classical.choose (place_yes ⟨w.heap.size, 0, none⟩ A1 l1.length c1 (rd_T64 l2 x13).f0 W c6b.out HN.out HA.out), ⟨fun W => Classical.choose_spec (place_yes ⟨w.heap.size, 0, none⟩ A1 l1.length c1 (rd_T64 l2 x13).f0 W c6b.out HN.out HA.out)⟩⟩
                  go_wp2_with (first | ((with_reducible refine gate_dst (N := 8) rfl ?_); refine box_event ?hg (N := 8) ?hd (cs := #[.int .i64 0, .int .i64 0]) (t := 64) ?hr ?_; (case hd => rfl); (case hg => rfl); (case hr => first | (go_simp; done) | (go_simp; rfl)); intro gb155 hg w7 hbox hb; have n0_ := Aside0.mk (below_step (by repeat (first | (with_reducible first | exact HB.out | apply below_alloc | apply pw_below_drewN | apply below_drew1) | exact HB.out)) hb); have n1_ := Aside0.mk (hbox); have n2_ := Aside0.mk ((by rw [hg]; exact (below_size (by repeat (first | (with_reducible first | exact HB.out | apply below_alloc | apply pw_below_drewN | apply below_drew1) | exact HB.out)))) : w.heap.size ≤ gb155); clear HB; have HB := n0_; have BK155 := n1_; have GE155 := n2_; clear n0_ n1_ n2_; clear hb hbox hg; have hcz13_0 : w7.cell? ⟨gb155, 0, none⟩ = some (.int .i64 0) := (blk_cell BK155.out 0).trans rfl; have hcz13_1 : w7.cell? ⟨gb155, 1, none⟩ = some (.int .i64 0) := (blk_cell BK155.out 1).trans rfl; have hfz13_0 := blk_frozen BK155.out 0; have hfz13_1 := blk_frozen BK155.out 1) | (go_at_call 43; with_reducible refine (HQ.out _).mono ?_; rintro e w14 ⟨rfl, hb⟩; have n0_ := Aside0.mk (blk_below (g := gb155) (o := .cells #[.int .i64 ((rd_T64 l2 x13).f0), .int .i64 ((rd_T64 l2 x13).f1)] 64 (0, 0)) (by (with_reducible repeat first | apply blk_drewN | apply blk_drew | apply blk_alloc); refine blk_put (cs := #[.int .i64 ((rd_T64 l2 x13).f0), .int .i64 0]) ?_ 1 _ rfl; (with_reducible repeat first | apply blk_drewN | apply blk_drew | apply blk_alloc); refine blk_put (cs := #[.int .i64 0, .int .i64 0]) ?_ 0 _ rfl; (with_reducible repeat first | apply blk_drewN | apply blk_drew | apply blk_alloc); exact BK155.out) hb); have n1_ := Aside0.mk (below_step (by repeat (first | (with_reducible first | exact HB.out | apply below_alloc | apply pw_below_drewN | apply below_drew1 | refine below_set ?_ GE155.out) | exact HB.out)) hb); clear BK155; clear HB; have BK155 := n0_; have HB := n1_; clear n0_ n1_; (try clear hb); have hcz15_0 : w14.cell? ⟨gb155, 0, none⟩ = some (.int .i64 ((rd_T64 l2 x13).f0)) := (blk_cell BK155.out 0).trans rfl; have hcz15_1 : w14.cell? ⟨gb155, 1, none⟩ = some (.int .i64 ((rd_T64 l2 x13).f1)) := (blk_cell BK155.out 1).trans rfl))
                  go_roundg k1
                  case measure => omega
                  case rel => exact ⟨wrap64 (x13 + 1), (by first | rfl | (simp; done)), H', ⟨by repeat (first | (with_reducible first | exact HB.out | apply below_alloc | apply pw_below_drewN | apply below_drew1 | refine below_set ?_ GE155.out) | exact HB.out)⟩⟩
              · rw [if_neg c6] at H
                obtain rfl := Option.some.inj H
                have c6b := Aside0.mk c6
                clear c6 H
                go_wp2_with (first | ((with_reducible refine gate_dst (N := 8) rfl ?_); refine box_event ?hg (N := 8) ?hd (cs := #[.int .i64 0, .int .i64 0]) (t := 64) ?hr ?_; (case hd => rfl); (case hg => rfl); (case hr => first | (go_simp; done) | (go_simp; rfl)); intro gb155 hg w7 hbox hb; have n0_ := Aside0.mk (below_step (by repeat (first | (with_reducible first | exact HB.out | apply below_alloc | apply pw_below_drewN | apply below_drew1) | exact HB.out)) hb); have n1_ := Aside0.mk (hbox); have n2_ := Aside0.mk ((by rw [hg]; exact (below_size (by repeat (first | (with_reducible first | exact HB.out | apply below_alloc | apply pw_below_drewN | apply below_drew1) | exact HB.out)))) : w.heap.size ≤ gb155); clear HB; have HB := n0_; have BK155 := n1_; have GE155 := n2_; clear n0_ n1_ n2_; clear hb hbox hg; have hcz13_0 : w7.cell? ⟨gb155, 0, none⟩ = some (.int .i64 0) := (blk_cell BK155.out 0).trans rfl; have hcz13_1 : w7.cell? ⟨gb155, 1, none⟩ = some (.int .i64 0) := (blk_cell BK155.out 1).trans rfl; have hfz13_0 := blk_frozen BK155.out 0; have hfz13_1 := blk_frozen BK155.out 1) | (go_at_call 43; with_reducible refine (place_no _ A1 l1.length c1 (rd_T64 l2 x13).f0 _ c6b.out c5b.out).mono ?_; rintro e w14 ⟨rfl, hb⟩; have n0_ := Aside0.mk (blk_below (g := gb155) (o := .cells #[.int .i64 ((rd_T64 l2 x13).f0), .int .i64 ((rd_T64 l2 x13).f1)] 64 (0, 0)) (by (with_reducible repeat first | apply blk_drewN | apply blk_drew | apply blk_alloc); refine blk_put (cs := #[.int .i64 ((rd_T64 l2 x13).f0), .int .i64 0]) ?_ 1 _ rfl; (with_reducible repeat first | apply blk_drewN | apply blk_drew | apply blk_alloc); refine blk_put (cs := #[.int .i64 0, .int .i64 0]) ?_ 0 _ rfl; (with_reducible repeat first | apply blk_drewN | apply blk_drew | apply blk_alloc); exact BK155.out) hb); have n1_ := Aside0.mk (below_step (by repeat (first | (with_reducible first | exact HB.out | apply below_alloc | apply pw_below_drewN | apply below_drew1 | refine below_set ?_ GE155.out) | exact HB.out)) hb); clear BK155; clear HB; have BK155 := n0_; have HB := n1_; clear n0_ n1_; (try clear hb); have hcz15_0 : w14.cell? ⟨gb155, 0, none⟩ = some (.int .i64 ((rd_T64 l2 x13).f0)) := (blk_cell BK155.out 0).trans rfl; have hcz15_1 : w14.cell? ⟨gb155, 1, none⟩ = some (.int .i64 ((rd_T64 l2 x13).f1)) := (blk_cell BK155.out 1).trans rfl))
                go_ret
                exact ⟨rfl, by repeat (first | (with_reducible first | exact HB.out | apply below_alloc | apply pw_below_drewN | apply below_drew1 | refine below_set ?_ GE155.out) | exact HB.out)⟩
            · rw [if_neg c5] at H; simp at H
          · rw [if_neg c4] at H; simp at H
        · rw [if_neg c3] at H
          have c3b0 : decide (x13 < (l2.length : Int)) = false := decide_eq_false c3
          clear c3
          unfold ledger_may.fin at H
          by_cases c5 : l2.length = 0 ∨ 64 < l2.length
          · rw [if_pos c5] at H
            obtain rfl := Option.some.inj H
            clear H
            by_cases c6 : l2.length = 0
            · have c6b : ((l2.length : Int) == 0) = true := beq_iff_eq.mpr (by omega)
              have c6c : (l2.length == 0) = true := beq_iff_eq.mpr c6
              clear c6 c5
              go_wp2
              go_ret
              exact ⟨rfl, HB.out⟩
            · have c6b : ((l2.length : Int) == 0) = false := beq_eq_false_iff_ne.mpr (by omega)
              have c6c : (l2.length == 0) = false := beq_eq_false_iff_ne.mpr c6
              have c7 : decide (64 < (l2.length : Int)) = true := decide_eq_true (by omega)
              have c8 : decide (64 < l2.length) = true := decide_eq_true (by omega)
              have c9 : ¬ l2 = [] := fun e => c6 (by rw [e]; rfl)
              clear c6 c5
              go_wp2
              go_ret
              exact ⟨rfl, HB.out⟩
          · rw [if_neg c5] at H
            have c6b : ((l2.length : Int) == 0) = false := beq_eq_false_iff_ne.mpr (by omega)
            have c6c : (l2.length == 0) = false := beq_eq_false_iff_ne.mpr (by omega)
            have c7 : decide (64 < (l2.length : Int)) = false := decide_eq_false (by omega)
            have c8 : decide (64 < l2.length) = false := decide_eq_false (by omega)
            have c9 : ¬ l2 = [] := fun e => c5 (Or.inl (by rw [e]; rfl))
            clear c5
            obtain ⟨t, ht, H⟩ := Option.bind_eq_some_iff.1 H
            obtain ⟨⟨s, er⟩, hs, H⟩ := Option.bind_eq_some_iff.1 H
            have HT := Aside0.mk ht
            have HS := Aside0.mk hs
            replace H := Option.some.inj H
            clear ht hs
            by_cases d1 : er = 0
            · have d1b : (er == 0) = true := beq_iff_eq.mpr d1
              by_cases d2 : s = 0
              · have d2b : (s != 0) = false := by simp [d2]
                have hrr : r = 0 := by simp [d1, d2] at H; omega
                subst d1
                subst hrr
                clear H d2
                go_wp2_with (first | (go_at_call 42; with_reducible refine (ledger_amounts.calls k1 _ c2 l2 true 0 t _ (Kd.C_below HR2.out HB.out) HC2.out HT.out).mono ?_; rintro e w1 ⟨v, rfl, ho, hb⟩; obtain ⟨A3, c3, rfl, hcc, hC⟩ := Kd.R_reads ho; have HC3 := Aside0.mk hC; have HCC := Aside0.mk hcc; have HB2 := Aside0.mk (HB.out.trans (hb.mono HB.out.size)); clear ho hb hcc hC) | (go_at_call 37; with_reducible refine (money_Add.calls k1 _ _ t s _ _ HC3.out HCC.out HS.out).mono ?_; rintro e w2 ⟨rfl, hd⟩; replace HB2 := Aside0.mk (HB2.out.trans (hd.below.mono HB2.out.size)); clear hd))
                go_ret
                exact ⟨rfl, HB2.out⟩
              · have d2b : (s != 0) = true := by simp [d2]
                have hrr : r = 3 := by simp [d1, d2] at H; omega
                subst hrr
                clear H d2 d1
                go_wp2_with (first | (go_at_call 42; with_reducible refine (ledger_amounts.calls k1 _ c2 l2 true 0 t _ (Kd.C_below HR2.out HB.out) HC2.out HT.out).mono ?_; rintro e w1 ⟨v, rfl, ho, hb⟩; obtain ⟨A3, c3, rfl, hcc, hC⟩ := Kd.R_reads ho; have HC3 := Aside0.mk hC; have HCC := Aside0.mk hcc; have HB2 := Aside0.mk (HB.out.trans (hb.mono HB.out.size)); clear ho hb hcc hC) | (go_at_call 37; with_reducible refine (money_Add.calls k1 _ _ t s _ _ HC3.out HCC.out HS.out).mono ?_; rintro e w2 ⟨rfl, hd⟩; replace HB2 := Aside0.mk (HB2.out.trans (hd.below.mono HB2.out.size)); clear hd))
                go_ret
                exact ⟨rfl, HB2.out⟩
            · have d1b : (er == 0) = false := by simp [d1]
              have hrr : r = er := by simp [d1] at H; omega
              subst hrr
              clear H d1
              go_wp2_with (first | (go_at_call 42; with_reducible refine (ledger_amounts.calls k1 _ c2 l2 true 0 t _ (Kd.C_below HR2.out HB.out) HC2.out HT.out).mono ?_; rintro e w1 ⟨v, rfl, ho, hb⟩; obtain ⟨A3, c3, rfl, hcc, hC⟩ := Kd.R_reads ho; have HC3 := Aside0.mk hC; have HCC := Aside0.mk hcc; have HB2 := Aside0.mk (HB.out.trans (hb.mono HB.out.size)); clear ho hb hcc hC) | (go_at_call 37; with_reducible refine (money_Add.calls k1 _ _ t s _ _ HC3.out HCC.out HS.out).mono ?_; rintro e w2 ⟨rfl, hd⟩; replace HB2 := Aside0.mk (HB2.out.trans (hd.below.mono HB2.out.size)); clear hd))
              go_ret
              exact ⟨rfl, HB2.out⟩
  · rw [if_neg c0] at h; simp at h
end Go.Proofs.Ytlccomoiajnkmaa.PAll
end
section
namespace Go.Proofs.Ytlccomoiajnkmaa.PAll
open Go.RowKit Go.Proofs.YtlccomoiajnkmaaW.PrintWords Go.Proofs.YtlccomoiajnkmaaW.PrintLast Go.Proofs.YtlccomoiajnkmaaW.PrintMore
attribute [local go_sem] max2_int min2_int max_two min_two max_three min_three max_four min_four   -- for this text's walks alone
set_option linter.unusedVariables false
set_option linter.unusedSimpArgs false

def slices_Clip_Alloc.f (l0 : List (S46)) : Option (List (S46)) := some l0
theorem slices_Clip_Alloc.cut (A : Option Addr) (n c : Nat) (hm : n ≤ c) : ∀ W : World, (Instr.slice 23 (.slice A n c) none (some (.int .i64 (n : Int))) (some (.int .i64 (n : Int)))).run Try.prog W = .ok (.slice A n n) W := by
  intro W
  obtain ⟨i0, hi, _, hsz, _⟩ := info_parts info46
  have ha : (A.map fun x => x.add 0) = A := by cases A <;> simp [Addr.add]
  have hn : (n : Int) ≤ (c : Int) := by omega
  simp [Instr.slice, run_underlying Try.underlying23, Instr.sliceBounds, run_sliceBound, sizeOf, typeInfo, hi, Result.andThen, ha, hn]
set_option maxHeartbeats 8000000 in
set_option maxRecDepth 100000 in
theorem slices_Clip_Alloc.calls (P0_ : Nat → Prop) (A0 : Option Addr) (c0 : Nat) (l0 : List (S46)) (r : List (S46)) (w : World) (hs0 : Kd.V k46 46 w w.heap.size (fun k_ => P0_ k_) (.slice A0 l0.length c0) l0) (h : slices_Clip_Alloc.f l0 = some r) :
    Calls Try.prog 40 #[.slice A0 l0.length c0] w fun e w' => ∃ v0_ : Value, e = .returned (v0_) ∧ Kd.V k46 46 w' w.heap.size (fun k_ => (P0_ k_ ∨ w.heap.size ≤ k_)) v0_ r ∧ Below w.heap.size w w' := by
  obtain rfl := Option.some.inj h
  have HO0 := Aside0.mk (show Kd.V k46 46 w w.heap.size (fun k_ => (P0_ k_ ∨ w.heap.size ≤ k_)) (.slice A0 l0.length l0.length) l0 from Kd.V_mk (Nat.le_refl _) (Kd.F_mono (Kd.V_F hs0) (fun k_ hk => .inl hk)))
  have hc := (Kd.V_reads' hs0).2.1
  have hcut := slices_Clip_Alloc.cut A0 l0.length c0 hc
  clear hs0 hc
  go_enter Try.func40, Try.ntmps40
  go_wp2
  go_ret
  exact ⟨_, rfl, HO0.out, Below.refl _ _⟩
end Go.Proofs.Ytlccomoiajnkmaa.PAll
end
