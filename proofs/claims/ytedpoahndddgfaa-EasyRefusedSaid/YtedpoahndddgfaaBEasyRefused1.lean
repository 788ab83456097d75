/- Words, plain functions and contracts of the functions that the law of this claim reaches; no conditions. -/
import Derived.Test.YtedpoahndddgfaaBEasyRefused0
import Derived.Test.YtedpoahndddgfaaProg
import Derived.Lib.SliceRun
section
namespace Go.Proofs.Ytedpoahndddgfaa.PAll
open Go.RowKit Go.Proofs.YtedpoahndddgfaaW.PrintWords Go.Proofs.YtedpoahndddgfaaW.PrintLast Go.Proofs.YtedpoahndddgfaaW.PrintMore
attribute [local go_sem] max2_int min2_int max_two min_two max_three min_three max_four min_four   -- for this text's walks alone
set_option linter.unusedVariables false
set_option linter.unusedSimpArgs false
/-! ### What the walks say over and over -/
theorem mB {p q : Prop} (h : p) (f : p → q := by intro h; repeat (first | (with_reducible first | exact h | apply below_alloc | apply pw_below_drewN | apply below_drew1) | exact h)) : q := f h
theorem mK {p q : Prop} (h : p) (f : p → q := by intro h; repeat (first | (with_reducible first | exact h | apply Kept.alloc | apply Kept.drewN | apply Kept.drew) | exact h)) : q := f h
theorem mR {p q : Prop} (h : p) (f : p → q := by intro h; (with_reducible repeat (first | apply Kd.R_alloc | apply Kd.R_drewN | apply Kd.R_drew)); exact h) : q := f h
theorem mV {p q : Prop} (h : p) (f : p → q := by intro h; (with_reducible repeat (first | apply Kd.V_alloc | apply Kd.V_drewN | apply Kd.V_drew)); exact h) : q := f h
theorem oda {p : Prop} [Decidable p] (h : decide p = true := by first | (with_reducible assumption) | assumption) : p := of_decide_eq_true h
theorem ez {p : Prop} (h : p := by first | rfl | (simp; done) | (simp [*]; done)) : p := h
theorem mBs {p q : Prop} (h : p) (f : p → q := by intro h; repeat (first | (with_reducible first | exact h | apply below_alloc | apply pw_below_drewN | apply below_drew1 | refine below_set ?_ (Aside0.out (by assumption))) | exact h)) : q := f h
theorem mBK {p q : Prop} (h : p) (f : p → q := by intro h; (with_reducible repeat (first | refine blk_drewN ?_ _ | refine blk_drew ?_ | refine blk_alloc ?_ _)); exact h) : q := f h
theorem mC {p q : Prop} (h : p) (f : p → q := by intro h; repeat (first | exact h | (with_reducible refine Kd.C_alloc ?_ _) | (with_reducible refine Kd.C_drewN ?_ _) | (with_reducible refine Kd.C_drew ?_))) : q := f h
theorem mt {p : Prop} (h : p := by (try simp only [List.map_toArray, List.map_cons, List.map_nil]); first | done | rfl | (simp only [List.length_drop, List.length_take]; rfl)) : p := h
theorem mH {r p q : Prop} (hy : r) (H : p) (f : r → p → q := by intro hy H; first | (rw [hy]; with_reducible exact H) | (have H2_ := (Option.bind_some _ _).symm.trans H; rw [hy]; with_reducible exact H2_) | (have H2_ := (Option.bind_some _ _).symm.trans H; with_reducible exact H2_) | with_reducible exact H | (rw [hy]; exact H) | exact H) : q := f hy H
/-! ### A run of steps in a region that draws, told by its plan (operation, slot): each step takes the plan's first -/
def Plan (is : List (Nat × Nat)) (p : Prop) : Prop := p
theorem plan_ (is : List (Nat × Nat)) {p : Prop} (h : Plan is p) : p := h
theorem planEnd_ {p : Prop} (h : p) : Plan [] p := h
section
variable {P : Program} {ops : Array Oper} {Q : Exit → Act → World → Prop} {md : Region.Mode} {S : World → Prop} {ds : List Nat} {i N : Nat} {is : List (Nat × Nat)} {oi : Oper} {v : Value} {fuel : Nat} {l : Array Bool} {a : Act} {w : World}
theorem planP_ (hi : ops[i]? = some oi) (hN : oi.dst = some N) (hc : anyB md ops l (l.setIfInBounds i true) i = true) (hQ : ∀ c a w, Q (.panic c) (a.put oi.dst v) w → Q (.panic c) a w) (hy : Yields P ops oi v a) {a' : Act} (ha : a.put (some N) v = a')
    (h : Plan is (wpAnyLast P md ops Q S ds fuel (l.setIfInBounds i true) a' w)) : Plan ((i, N) :: is) (wpAnyLast P md ops Q S ds (fuel + 1) l a w) := pure_ _ hi hN hc hQ hy ha h
theorem planT_ (hi : ops[i]? = some oi) (hN : oi.dst = some N) (hc : takeB md ops ds l (l.setIfInBounds i true) i = true) (hQ : ∀ c a w, Q (.panic c) (a.put oi.dst v) w → Q (.panic c) a w) (hy : YieldsIf P ops S oi v a) (hS : S w) {a' : Act} (ha : a.put (some N) v = a')
    (h : Plan is (wpAnyLast P md ops Q S ds fuel (l.setIfInBounds i true) a' w)) : Plan ((i, N) :: is) (wpAnyLast P md ops Q S ds (fuel + 1) l a w) := take_ _ hi hN hc hQ hy hS ha h
end



def errW : Option Int → Value
 | none => .nilIface
 | some c => .iface 0 (.int .i64 c)
theorem errW_none : errW none = .nilIface := rfl
theorem errW_some (c : Int) : errW (some c) = .iface 0 (.int .i64 c) := rfl

theorem goesV_ {P : Program} {ops : Array Oper} {Q : Exit → Act → World → Prop} {oi : Oper} {N : Option Tmp} {a : Act} {w : World} {K : Act → World → Prop} {f : FuncId} {fn : Func} {c : Operand} {as_ : Array Operand} {ts : Array TypeId} (hf : P.funcs[f]? = some fn) (hname : (fn.name == "runtime.NumGoroutine") = false) (hb : fn.body.isSome = true) (args : Array Value)
  (hw : Region.wanted oi (yielded ops a.tmps) = true) (hN : oi.dst = N) (hop : oi.op = .call { callee := .value c, args := as_, argTypes := ts }) (hargs : as_.map a.eval = args)
  (hc : a.eval c = .func (.func f) #[] #[])
  (h : Calls P f args w fun e w' => ∃ v, e = .returned v ∧ K (a.put N v) w') : if Region.wanted oi (yielded ops a.tmps) = true then Oper.wp P oi a w K Q else K (a.put N undef) w := by
 refine call_ f args hw hN ?_ h
 have he := enters_ hf hname hb args w
 unfold execOp
 simp [hop, resolve, Deferred.ofValue, invoke, hc, hargs, he]
theorem info3 : (Try.prog.info? 3).map (fun i => (i.zero, i.size, i.bytes)) = some (some (.int .i64 0), 1, 8) := by kernel_rfl
theorem info4 : (Try.prog.info? 4).map (fun i => (i.zero, i.size, i.bytes)) = some (some (.bool false), 1, 1) := by kernel_rfl
theorem info38 : (Try.prog.info? 38).map (fun i => (i.zero, i.size, i.bytes)) = some (some (.agg #[(.int .i64 0), (.int .i64 0)]), 2, 16) := by kernel_rfl
theorem info40 : (Try.prog.info? 40).map (fun i => (i.zero, i.size, i.bytes)) = some (some (.agg #[(.int .i64 0), (.int .i64 0)]), 2, 16) := by kernel_rfl
theorem info52 : (Try.prog.info? 52).map (fun i => (i.zero, i.size, i.bytes)) = some (some (.agg #[(.int .i64 0), (.int .i64 0)]), 2, 16) := by kernel_rfl
theorem info74 : (Try.prog.info? 74).map (fun i => (i.zero, i.size, i.bytes)) = some (some (.agg #[(.int .i64 0), (.int .i64 0), (.int .i64 0)]), 3, 24) := by kernel_rfl
-- the values' own types
/-! #### struct type 38 -/
structure S38 where
 f0 : Int
 f1 : Int
def z38 : S38 := ⟨(0 : Int), (0 : Int)⟩
def k38 : Kd S38 := Kd.iso (Kd.pair (Kd.int .i64) (Kd.int .i64)) (fun x : S38 => (x.f0, x.f1))
theorem k38_open {w : World} {x : S38} {cs : List Value} (h : k38.K w x cs) : cs = [.int .i64 x.f0, .int .i64 x.f1] := by
 obtain ⟨_, _, rfl, rfl, rfl⟩ := h
 exact rfl
theorem k38_openM {w : World} {base : Nat} {ok : Nat → Prop} {x : S38} {cs : List Value} (h : k38.M w base ok x cs) : cs = [.int .i64 x.f0, .int .i64 x.f1] := by
 obtain ⟨_, _, rfl, rfl, rfl⟩ := h
 exact rfl
theorem k38_mk (w : World) (x : S38)  : k38.K w x [.int .i64 x.f0, .int .i64 x.f1] := ⟨[.int .i64 x.f0], [.int .i64 x.f1], rfl, rfl, rfl⟩
theorem k38_mkM (w : World) (base : Nat) (ok : Nat → Prop) (x : S38)  : k38.M w base ok x [.int .i64 x.f0, .int .i64 x.f1] := ⟨[.int .i64 x.f0], [.int .i64 x.f1], rfl, rfl, rfl⟩
theorem k38_mkF (W : World) (ok : Nat → Prop) (x : S38) : Kd.FK k38 W ok x [.int .i64 x.f0, .int .i64 x.f1] := fun W2 _ => k38_mk W2 x
def rd_T38 (xs : List S38) (i : Int) : S38 := xs.getD i.toNat z38
theorem at_T38 {w : World} {A : Option Addr} {n : Nat} {xs : List S38} (h : Kd.C k38 w A n xs) (i : Int) (h0 : 0 ≤ i) (h1 : i < n) : ∃ ad , A = some ad ∧ w.cell? (ad.add (i.toNat * 2)) = some (.int .i64 (rd_T38 xs i).f0) ∧ w.cell? ⟨(ad.add (i.toNat * 2)).block, (ad.add (i.toNat * 2)).off + 1, none⟩ = some (.int .i64 (rd_T38 xs i).f1) := by
 obtain ⟨ad, c, e, _, hK, hc0⟩ := Kd.C_get h z38 i h0 h1
 have hc : ∀ j u, c[j]? = some u → w.cell? (ad.add (i.toNat * 2 + j)) = some u := hc0
 obtain rfl := k38_open hK
 exact ⟨ad, e, hc 0 _ rfl, by rw [← add_field _ _ 1 (by omega)]; exact hc 1 _ rfl⟩

/-! #### struct type 40 -/
structure S40 where
 f0 : Int
 f1 : Int
def z40 : S40 := ⟨(0 : Int), (0 : Int)⟩
def k40 : Kd S40 := Kd.iso (Kd.pair (Kd.int .i64) (Kd.int .i64)) (fun x : S40 => (x.f0, x.f1))
theorem k40_open {w : World} {x : S40} {cs : List Value} (h : k40.K w x cs) : cs = [.int .i64 x.f0, .int .i64 x.f1] := by
 obtain ⟨_, _, rfl, rfl, rfl⟩ := h
 exact rfl
theorem k40_openM {w : World} {base : Nat} {ok : Nat → Prop} {x : S40} {cs : List Value} (h : k40.M w base ok x cs) : cs = [.int .i64 x.f0, .int .i64 x.f1] := by
 obtain ⟨_, _, rfl, rfl, rfl⟩ := h
 exact rfl
theorem k40_mk (w : World) (x : S40)  : k40.K w x [.int .i64 x.f0, .int .i64 x.f1] := ⟨[.int .i64 x.f0], [.int .i64 x.f1], rfl, rfl, rfl⟩
theorem k40_mkM (w : World) (base : Nat) (ok : Nat → Prop) (x : S40)  : k40.M w base ok x [.int .i64 x.f0, .int .i64 x.f1] := ⟨[.int .i64 x.f0], [.int .i64 x.f1], rfl, rfl, rfl⟩
theorem k40_mkF (W : World) (ok : Nat → Prop) (x : S40) : Kd.FK k40 W ok x [.int .i64 x.f0, .int .i64 x.f1] := fun W2 _ => k40_mk W2 x
def rd_T40 (xs : List S40) (i : Int) : S40 := xs.getD i.toNat z40
theorem at_T40 {w : World} {A : Option Addr} {n : Nat} {xs : List S40} (h : Kd.C k40 w A n xs) (i : Int) (h0 : 0 ≤ i) (h1 : i < n) : ∃ ad , A = some ad ∧ w.cell? (ad.add (i.toNat * 2)) = some (.int .i64 (rd_T40 xs i).f0) ∧ w.cell? ⟨(ad.add (i.toNat * 2)).block, (ad.add (i.toNat * 2)).off + 1, none⟩ = some (.int .i64 (rd_T40 xs i).f1) := by
 obtain ⟨ad, c, e, _, hK, hc0⟩ := Kd.C_get h z40 i h0 h1
 have hc : ∀ j u, c[j]? = some u → w.cell? (ad.add (i.toNat * 2 + j)) = some u := hc0
 obtain rfl := k40_open hK
 exact ⟨ad, e, hc 0 _ rfl, by rw [← add_field _ _ 1 (by omega)]; exact hc 1 _ rfl⟩

def rd_L3 (xs : List (List S40)) (i : Int) : (List S40) := xs.getD i.toNat ([] : List S40)
theorem at_L3 {w : World} {A : Option Addr} {n : Nat} {xs : List (List S40)} (h : Kd.C (Kd.slice 40 k40) w A n xs) (i : Int) (h0 : 0 ≤ i) (h1 : i < n) : ∃ ad A0 c0, A = some ad ∧ w.cell? (ad.add i.toNat) = some (.slice A0 (rd_L3 xs i).length c0) ∧ (rd_L3 xs i).length ≤ c0 ∧ k40.C w A0 (rd_L3 xs i).length (rd_L3 xs i) := by
 obtain ⟨ad, c, e, _, hK, hc0⟩ := Kd.C_get h ([] : List S40) i h0 h1
 have hc : ∀ j u, c[j]? = some u → w.cell? (ad.add (i.toNat * 1 + j)) = some u := hc0
 obtain ⟨A0, c0, rfl, l0, g0⟩ := hK
 exact ⟨ad, A0, c0, e, by have hq := hc 0 _ rfl; rwa [Nat.mul_one, Nat.add_zero] at hq, l0, g0⟩

/-! #### struct type 33 -/
structure S33 where
 f0 : Int
 f1 : Int
 f2 : Int
def z33 : S33 := ⟨(0 : Int), (0 : Int), (0 : Int)⟩
def k33 : Kd S33 := Kd.iso (Kd.pair (Kd.int .i64) (Kd.pair (Kd.int .i64) (Kd.int .i64))) (fun x : S33 => (x.f0, x.f1, x.f2))
theorem k33_open {w : World} {x : S33} {cs : List Value} (h : k33.K w x cs) : cs = [.int .i64 x.f0, .int .i64 x.f1, .int .i64 x.f2] := by
 obtain ⟨_, _, rfl, rfl, ⟨_, _, rfl, rfl, rfl⟩⟩ := h
 exact rfl
theorem k33_openM {w : World} {base : Nat} {ok : Nat → Prop} {x : S33} {cs : List Value} (h : k33.M w base ok x cs) : cs = [.int .i64 x.f0, .int .i64 x.f1, .int .i64 x.f2] := by
 obtain ⟨_, _, rfl, rfl, ⟨_, _, rfl, rfl, rfl⟩⟩ := h
 exact rfl
theorem k33_mk (w : World) (x : S33)  : k33.K w x [.int .i64 x.f0, .int .i64 x.f1, .int .i64 x.f2] := ⟨[.int .i64 x.f0], [.int .i64 x.f1, .int .i64 x.f2], rfl, rfl, ⟨[.int .i64 x.f1], [.int .i64 x.f2], rfl, rfl, rfl⟩⟩
theorem k33_mkM (w : World) (base : Nat) (ok : Nat → Prop) (x : S33)  : k33.M w base ok x [.int .i64 x.f0, .int .i64 x.f1, .int .i64 x.f2] := ⟨[.int .i64 x.f0], [.int .i64 x.f1, .int .i64 x.f2], rfl, rfl, ⟨[.int .i64 x.f1], [.int .i64 x.f2], rfl, rfl, rfl⟩⟩
theorem k33_mkF (W : World) (ok : Nat → Prop) (x : S33) : Kd.FK k33 W ok x [.int .i64 x.f0, .int .i64 x.f1, .int .i64 x.f2] := fun W2 _ => k33_mk W2 x
def rd_T33 (xs : List S33) (i : Int) : S33 := xs.getD i.toNat z33
theorem at_T33 {w : World} {A : Option Addr} {n : Nat} {xs : List S33} (h : Kd.C k33 w A n xs) (i : Int) (h0 : 0 ≤ i) (h1 : i < n) : ∃ ad , A = some ad ∧ w.cell? (ad.add (i.toNat * 3)) = some (.int .i64 (rd_T33 xs i).f0) ∧ w.cell? ⟨(ad.add (i.toNat * 3)).block, (ad.add (i.toNat * 3)).off + 1, none⟩ = some (.int .i64 (rd_T33 xs i).f1) ∧ w.cell? ⟨(ad.add (i.toNat * 3)).block, (ad.add (i.toNat * 3)).off + 2, none⟩ = some (.int .i64 (rd_T33 xs i).f2) := by
 obtain ⟨ad, c, e, _, hK, hc0⟩ := Kd.C_get h z33 i h0 h1
 have hc : ∀ j u, c[j]? = some u → w.cell? (ad.add (i.toNat * 3 + j)) = some u := hc0
 obtain rfl := k33_open hK
 exact ⟨ad, e, hc 0 _ rfl, by rw [← add_field _ _ 1 (by omega)]; exact hc 1 _ rfl, by rw [← add_field _ _ 2 (by omega)]; exact hc 2 _ rfl⟩

/-! #### struct type 52 -/
structure S52 where
 f0 : Int
 f1 : Int
def z52 : S52 := ⟨(0 : Int), (0 : Int)⟩
def k52 : Kd S52 := Kd.iso (Kd.pair (Kd.int .i64) (Kd.int .i64)) (fun x : S52 => (x.f0, x.f1))
theorem k52_open {w : World} {x : S52} {cs : List Value} (h : k52.K w x cs) : cs = [.int .i64 x.f0, .int .i64 x.f1] := by
 obtain ⟨_, _, rfl, rfl, rfl⟩ := h
 exact rfl
theorem k52_openM {w : World} {base : Nat} {ok : Nat → Prop} {x : S52} {cs : List Value} (h : k52.M w base ok x cs) : cs = [.int .i64 x.f0, .int .i64 x.f1] := by
 obtain ⟨_, _, rfl, rfl, rfl⟩ := h
 exact rfl
theorem k52_mk (w : World) (x : S52)  : k52.K w x [.int .i64 x.f0, .int .i64 x.f1] := ⟨[.int .i64 x.f0], [.int .i64 x.f1], rfl, rfl, rfl⟩
theorem k52_mkM (w : World) (base : Nat) (ok : Nat → Prop) (x : S52)  : k52.M w base ok x [.int .i64 x.f0, .int .i64 x.f1] := ⟨[.int .i64 x.f0], [.int .i64 x.f1], rfl, rfl, rfl⟩
theorem k52_mkF (W : World) (ok : Nat → Prop) (x : S52) : Kd.FK k52 W ok x [.int .i64 x.f0, .int .i64 x.f1] := fun W2 _ => k52_mk W2 x
def rd_T52 (xs : List S52) (i : Int) : S52 := xs.getD i.toNat z52
theorem at_T52 {w : World} {A : Option Addr} {n : Nat} {xs : List S52} (h : Kd.C k52 w A n xs) (i : Int) (h0 : 0 ≤ i) (h1 : i < n) : ∃ ad , A = some ad ∧ w.cell? (ad.add (i.toNat * 2)) = some (.int .i64 (rd_T52 xs i).f0) ∧ w.cell? ⟨(ad.add (i.toNat * 2)).block, (ad.add (i.toNat * 2)).off + 1, none⟩ = some (.int .i64 (rd_T52 xs i).f1) := by
 obtain ⟨ad, c, e, _, hK, hc0⟩ := Kd.C_get h z52 i h0 h1
 have hc : ∀ j u, c[j]? = some u → w.cell? (ad.add (i.toNat * 2 + j)) = some u := hc0
 obtain rfl := k52_open hK
 exact ⟨ad, e, hc 0 _ rfl, by rw [← add_field _ _ 1 (by omega)]; exact hc 1 _ rfl⟩

/-! #### struct type 74 -/
structure S74 where
 f0 : Int
 f1 : Int
 f2 : Int
def z74 : S74 := ⟨(0 : Int), (0 : Int), (0 : Int)⟩
def k74 : Kd S74 := Kd.iso (Kd.pair (Kd.int .i64) (Kd.pair (Kd.int .i64) (Kd.int .i64))) (fun x : S74 => (x.f0, x.f1, x.f2))
theorem k74_open {w : World} {x : S74} {cs : List Value} (h : k74.K w x cs) : cs = [.int .i64 x.f0, .int .i64 x.f1, .int .i64 x.f2] := by
 obtain ⟨_, _, rfl, rfl, ⟨_, _, rfl, rfl, rfl⟩⟩ := h
 exact rfl
theorem k74_openM {w : World} {base : Nat} {ok : Nat → Prop} {x : S74} {cs : List Value} (h : k74.M w base ok x cs) : cs = [.int .i64 x.f0, .int .i64 x.f1, .int .i64 x.f2] := by
 obtain ⟨_, _, rfl, rfl, ⟨_, _, rfl, rfl, rfl⟩⟩ := h
 exact rfl
theorem k74_mk (w : World) (x : S74)  : k74.K w x [.int .i64 x.f0, .int .i64 x.f1, .int .i64 x.f2] := ⟨[.int .i64 x.f0], [.int .i64 x.f1, .int .i64 x.f2], rfl, rfl, ⟨[.int .i64 x.f1], [.int .i64 x.f2], rfl, rfl, rfl⟩⟩
theorem k74_mkM (w : World) (base : Nat) (ok : Nat → Prop) (x : S74)  : k74.M w base ok x [.int .i64 x.f0, .int .i64 x.f1, .int .i64 x.f2] := ⟨[.int .i64 x.f0], [.int .i64 x.f1, .int .i64 x.f2], rfl, rfl, ⟨[.int .i64 x.f1], [.int .i64 x.f2], rfl, rfl, rfl⟩⟩
theorem k74_mkF (W : World) (ok : Nat → Prop) (x : S74) : Kd.FK k74 W ok x [.int .i64 x.f0, .int .i64 x.f1, .int .i64 x.f2] := fun W2 _ => k74_mk W2 x
def rd_T74 (xs : List S74) (i : Int) : S74 := xs.getD i.toNat z74
theorem at_T74 {w : World} {A : Option Addr} {n : Nat} {xs : List S74} (h : Kd.C k74 w A n xs) (i : Int) (h0 : 0 ≤ i) (h1 : i < n) : ∃ ad , A = some ad ∧ w.cell? (ad.add (i.toNat * 3)) = some (.int .i64 (rd_T74 xs i).f0) ∧ w.cell? ⟨(ad.add (i.toNat * 3)).block, (ad.add (i.toNat * 3)).off + 1, none⟩ = some (.int .i64 (rd_T74 xs i).f1) ∧ w.cell? ⟨(ad.add (i.toNat * 3)).block, (ad.add (i.toNat * 3)).off + 2, none⟩ = some (.int .i64 (rd_T74 xs i).f2) := by
 obtain ⟨ad, c, e, _, hK, hc0⟩ := Kd.C_get h z74 i h0 h1
 have hc : ∀ j u, c[j]? = some u → w.cell? (ad.add (i.toNat * 3 + j)) = some u := hc0
 obtain rfl := k74_open hK
 exact ⟨ad, e, hc 0 _ rfl, by rw [← add_field _ _ 1 (by omega)]; exact hc 1 _ rfl, by rw [← add_field _ _ 2 (by omega)]; exact hc 2 _ rfl⟩

def rd_L8 (xs : List (List Int)) (i : Int) : (List Int) := xs.getD i.toNat ([] : List Int)
theorem at_L8 {w : World} {A : Option Addr} {n : Nat} {xs : List (List Int)} (h : Kd.C (Kd.slice 3 (Kd.int .i64)) w A n xs) (i : Int) (h0 : 0 ≤ i) (h1 : i < n) : ∃ ad A0 c0, A = some ad ∧ w.cell? (ad.add i.toNat) = some (.slice A0 (rd_L8 xs i).length c0) ∧ (rd_L8 xs i).length ≤ c0 ∧ (Kd.int .i64).C w A0 (rd_L8 xs i).length (rd_L8 xs i) := by
 obtain ⟨ad, c, e, _, hK, hc0⟩ := Kd.C_get h ([] : List Int) i h0 h1
 have hc : ∀ j u, c[j]? = some u → w.cell? (ad.add (i.toNat * 1 + j)) = some u := hc0
 obtain ⟨A0, c0, rfl, l0, g0⟩ := hK
 exact ⟨ad, A0, c0, e, by have hq := hc 0 _ rfl; rwa [Nat.mul_one, Nat.add_zero] at hq, l0, g0⟩

def g38 (x : S38) : Prop := ((Lit.int .i64 x.f0).wf = true) ∧ ((Lit.int .i64 x.f1).wf = true)
def g33 (x : S33) : Prop := ((Lit.int .i64 x.f0).wf = true) ∧ ((Lit.int .i64 x.f1).wf = true) ∧ ((Lit.int .i64 x.f2).wf = true)
def g52 (x : S52) : Prop := ((Lit.int .i64 x.f0).wf = true) ∧ ((Lit.int .i64 x.f1).wf = true)
end Go.Proofs.Ytedpoahndddgfaa.PAll
end
section
namespace Go.Proofs.Ytedpoahndddgfaa.PAll
open Go.RowKit Go.Proofs.YtedpoahndddgfaaW.PrintWords Go.Proofs.YtedpoahndddgfaaW.PrintLast Go.Proofs.YtedpoahndddgfaaW.PrintMore
attribute [local go_sem] max2_int min2_int max_two min_two max_three min_three max_four min_four   -- for this text's walks alone
set_option linter.unusedVariables false
set_option linter.unusedSimpArgs false

/-! ### prebendref16_Held: function 13 -/
def prebendref16_Held.f (a0 : Int) (a1 : Int) : Option (Int) := if a0 < 0 then (some 0) else (if a0 > a1 then (some a1) else (some a0))
set_option maxHeartbeats 8000000 in
set_option maxRecDepth 100000 in
theorem prebendref16_Held.calls (a0 : Int) (a1 : Int) (r : Int) (w : World) (h : prebendref16_Held.f a0 a1 = some r) :
  Calls Try.prog 13 #[.int .i64 a0, .int .i64 a1] w fun e w' => e = .returned (.int .i64 r) ∧ Drawn0 w w' := by
 have H : (if a0 < 0 then (some 0) else (if a0 > a1 then (some a1) else (some a0))) = some r := h
 clear h
 by_cases c3 : a0 < 0
 ·rw [if_pos c3] at H
  have c3b0 : decide (a0 < 0) = true := decide_eq_true c3
  clear c3
  obtain rfl := Option.some.inj H
  go_enter Try.func13, Try.ntmps13
  go_wp2
  go_ret
  exact ⟨by first | rfl | (simp; done) | (simp [*]; done), by repeat (first | exact Drawn0.refl _ | apply Drawn0.step)⟩
 ·rw [if_neg c3] at H
  have c3b0 : decide (a0 < 0) = false := decide_eq_false c3
  clear c3
  by_cases c4 : a0 > a1
  ·rw [if_pos c4] at H
   have c4b0 : decide (a1 < a0) = true := decide_eq_true c4
   clear c4
   obtain rfl := Option.some.inj H
   go_enter Try.func13, Try.ntmps13
   go_wp2
   go_ret
   exact ⟨by first | rfl | (simp; done) | (simp [*]; done), by repeat (first | exact Drawn0.refl _ | apply Drawn0.step)⟩
  ·rw [if_neg c4] at H
   have c4b0 : decide (a1 < a0) = false := decide_eq_false c4
   clear c4
   obtain rfl := Option.some.inj H
   go_enter Try.func13, Try.ntmps13
   go_wp2
   go_ret
   exact ⟨by first | rfl | (simp; done) | (simp [*]; done), by repeat (first | exact Drawn0.refl _ | apply Drawn0.step)⟩

end Go.Proofs.Ytedpoahndddgfaa.PAll
end
section
namespace Go.Proofs.Ytedpoahndddgfaa.PAll
open Go.RowKit Go.Proofs.YtedpoahndddgfaaW.PrintWords Go.Proofs.YtedpoahndddgfaaW.PrintLast Go.Proofs.YtedpoahndddgfaaW.PrintMore
attribute [local go_sem] max2_int min2_int max_two min_two max_three min_three max_four min_four   -- for this text's walks alone
set_option linter.unusedVariables false
set_option linter.unusedSimpArgs false

/-! ### prebendref16_Busy: function 15 -/
mutual
def prebendref16_Busy.l0 : Nat → List (S38) → List (S38) → Int → Option ((List (S38)))
 | 0, _, _, _ => none
 | k + 1, x0, x3, x4 => if x4 < (x0.length : Int) then (prebendref16_Busy.j1 k x0 x3 x4 (decide (x4 < 40))) else (prebendref16_Busy.j1 k x0 x3 x4 false)
def prebendref16_Busy.j1 : Nat → List (S38) → List (S38) → Int → Bool → Option ((List (S38)))
 | 0, _, _, _, _ => none
 | k + 1, x0, x3, x4, x13 => if x13 = true then (if 0 ≤ x4 then (if x4 < (x0.length : Int) then ((prebendref16_Held.f ((rd_T38 x0 x4).f0) 1125899906842624).bind fun t198 => ((prebendref16_Held.f ((rd_T38 x0 x4).f1) 1048576).bind fun t200 => (if x3.length < 8796093022208 then (prebendref16_Busy.l0 k x0 (x3 ++ [(⟨t198, t200⟩ : S38)]) (wrap64 (x4 + 1))) else (none)))) else (none)) else (none)) else (some x3)
end
def prebendref16_Busy.f (k : Nat) (l0 : List (S38)) : Option ((List (S38))) := prebendref16_Busy.l0 k l0 (([] : List (S38))) 0
theorem prebendref16_Busy.mono_l : ∀ k, (∀ y0 y1 y2, LeO (prebendref16_Busy.l0 k y0 y1 y2) (prebendref16_Busy.l0 (k + 1) y0 y1 y2)) ∧ (∀ y0 y1 y2 y3, LeO (prebendref16_Busy.j1 k y0 y1 y2 y3) (prebendref16_Busy.j1 (k + 1) y0 y1 y2 y3))
 | 0 => ⟨fun _ _ _ r h => by simp [prebendref16_Busy.l0] at h, fun _ _ _ _ r h => by simp [prebendref16_Busy.j1] at h⟩
 | k + 1 => by
  obtain ⟨ih0, ih1⟩ := prebendref16_Busy.mono_l k
  refine ⟨?_, ?_⟩
  ·intro y0 y1 y2
   unfold prebendref16_Busy.l0
   repeat' first
   | (with_reducible exact ih0 _ _ _)
   | (with_reducible exact ih1 _ _ _ _)
   | (with_reducible exact LeO.refl _)
   | (with_reducible exact LeO.none _)
   | (with_reducible refine LeO.ite ?_ ?_)
   | (with_reducible refine LeO.bind ?_ (fun _ => ?_))
   | exact ih0 _ _ _
   | exact ih1 _ _ _ _
   | exact LeO.none _
   | refine LeO.ite ?_ ?_
   | refine LeO.bind ?_ (fun _ => ?_)
  ·intro y0 y1 y2 y3
   unfold prebendref16_Busy.j1
   repeat' first
   | (with_reducible exact ih0 _ _ _)
   | (with_reducible exact ih1 _ _ _ _)
   | (with_reducible exact LeO.refl _)
   | (with_reducible exact LeO.none _)
   | (with_reducible refine LeO.ite ?_ ?_)
   | (with_reducible refine LeO.bind ?_ (fun _ => ?_))
   | exact ih0 _ _ _
   | exact ih1 _ _ _ _
   | exact LeO.none _
   | refine LeO.ite ?_ ?_
   | refine LeO.bind ?_ (fun _ => ?_)
theorem prebendref16_Busy.mono : ∀ a0 k, LeO (prebendref16_Busy.f k a0) (prebendref16_Busy.f (k + 1) a0) := by
 intro a0 k
 obtain ⟨ih0, ih1⟩ := prebendref16_Busy.mono_l k
 unfold prebendref16_Busy.f
 repeat' first
   | (with_reducible exact ih0 _ _ _)
   | (with_reducible exact ih1 _ _ _ _)
   | (with_reducible exact LeO.refl _)
   | (with_reducible exact LeO.none _)
   | (with_reducible refine LeO.ite ?_ ?_)
   | (with_reducible refine LeO.bind ?_ (fun _ => ?_))
   | exact ih0 _ _ _
   | exact ih1 _ _ _ _
   | exact LeO.none _
   | refine LeO.ite ?_ ?_
   | refine LeO.bind ?_ (fun _ => ?_)
def prebendref16_Busy.T5 : Bool × List (List Nat × List Nat) := (true, [([], []), ([], []), ([], []), ([1, 2], [1, 2]), ([3], [3]), ([4], [4]), ([5], [5]), ([], []), ([], []), ([7, 8], [7, 8]), ([9], [9]), ([10], [10]), ([11, 6], [11]), ([6, 12], [6, 12]), ([13], [13]), ([0, 14, 12], [0, 14]), ([15, 15, 0, 1, 2, 3, 4, 5, 6, 7, 8, 9, 10, 11, 12, 13, 14, 15], [0, 15])])
def prebendref16_Busy.B5 : List Nat := [0, 0, 0, 6, 14, 30, 62, 0, 0, 384, 896, 1920, 4094, 8190, 16382, 32767, 65535]
theorem prebendref16_Busy.tab5 : rtab .any (opsOf Try.f15 5) = prebendref16_Busy.T5 := by kernel_rfl
theorem prebendref16_Busy.bits5 : waitsOk prebendref16_Busy.T5.2 prebendref16_Busy.B5 = true := by kernel_rfl
set_option maxHeartbeats 8000000 in
set_option maxRecDepth 100000 in
theorem prebendref16_Busy.calls (k : Nat) (A0 : Option Addr) (c0 : Nat) (l0 : List (S38)) (r : List (S38)) (w : World) (hr0 : Kd.C k38 w A0 l0.length l0) (hc0 : l0.length ≤ c0) (h : prebendref16_Busy.f k l0 = some r) :
  Calls Try.prog 15 #[.slice A0 l0.length c0] w fun e w' => ∃ v0_ : Value, e = .returned (v0_) ∧ Kd.R k38 38 w' w.heap.size (fun _ => True) v0_ r ∧ Below w.heap.size w w' := by
 have hu38 := Try.underlying38
 have HR0 := Aside0.mk hr0
 have HC0 := Aside0.mk hc0
 clear hr0; clear hc0
 have HB := Aside0.mk (Below.refl w.heap.size w)
 have H : (prebendref16_Busy.l0 k l0 (([] : List (S38))) 0) = some r := h
 clear h
 obtain ⟨y194, hy194⟩ : ∃ y_ : List (S38), y_ = (([] : List (S38))) := ⟨_, rfl⟩
 replace H : (prebendref16_Busy.l0 k l0 y194 0) = some r := mH hy194 H
 have Ny194 := Aside0.mk hy194
 clear hy194
 have H' := Aside0.mk H
 clear H
 go_enter Try.func15, Try.ntmps15
 go_wp2_with (first | ((with_reducible refine gate_dst (N := 5) rfl ?_); refine Kd.R_lit k38 _ 38 ?hg (N := 5) ?hd (xs := ([] : List (S38))) (inner := []) (ok := fun _ => True) (okp := fun _ => True) ?hr ?hp (fun _ hk => hk) trivial (Below.refl _ _) (Nat.le_refl _) (by simp) ?_; (case hd => rfl); (case hg => rfl); (case hr => first | (go_simp; done) | (go_simp; rfl)); (case hp => exact (Reps.none _ _)); intro v195 w2 ho3 hb hg_ hnew_; clear hg_ hnew_; (first | rw [← Ny194.out] at ho3 | (simp only [Int.reduceToNat] at ho3; rw [← Ny194.out] at ho3)); have n0_ := Aside0.mk (Kd.R_lower ho3 (below_size (mB HB.out))); have n1_ := Aside0.mk (below_step (mB HB.out) hb); clear HB; have HO196 := n0_; have HB := n1_; clear n0_ n1_; clear hb ho3))
 go_loopg [3, 4] k (fun kq v3 v4 w' => ∃ (x3_1 : List (S38)) (x4_1 : Int), v4 = .int .i64 x4_1 ∧ Aside0 (prebendref16_Busy.l0 kq l0 x3_1 x4_1 = some r) ∧ Aside0 (kq ≤ k) ∧ Aside0 (Kd.R k38 38 w' w.heap.size (fun _ => True) v3 x3_1) ∧ Aside0 (Below w.heap.size w w'))
 case atStart => exact ⟨(y194), (0), ez, H', ⟨Nat.le_refl _⟩, ⟨mR HO196.out⟩, ⟨mB HB.out⟩⟩
 case round =>
  clear H'
  (try clear c1); (try clear p2)
  obtain ⟨x3_1, x4_1, rfl, HA, HK1, HO_3, HB⟩ := hrel
  cases gk with
  | zero => exact absurd HA.out (by simp [prebendref16_Busy.l0])
  | succ k1 =>
   have H := HA.out
   clear HA
   simp only [prebendref16_Busy.l0] at H
   have HC4 := Aside0.mk H
   clear H
   go_upto_region 3 with (fail)
   go_cut [13] (fun v13 wc => ∃ (kq : Nat) (x13_3 : Bool), v13 = .bool x13_3 ∧ Aside0 (prebendref16_Busy.j1 kq l0 x3_1 x4_1 x13_3 = some r) ∧ Aside0 (kq ≤ k1) ∧ Aside0 (Kd.R k38 38 wc w.heap.size (fun _ => True) u3 x3_1) ∧ Aside0 (Below w.heap.size w wc))
   case first =>
    have H := HC4.out
    clear HC4
    by_cases c5 : x4_1 < (l0.length : Int)
    ·rw [if_pos c5] at H
     have c5b0 : decide (x4_1 < (l0.length : Int)) = true := decide_eq_true c5
     clear c5
     (first | rw [c5b0] | (simp only [i64_w, i32_w]; rw [c5b0]) | skip)
     have H' := Aside0.mk H
     clear H
     go_wp2
     go_meet
     case rel => exact ⟨_, (decide (x4_1 < 40)), ez, H', ⟨by have := HK1.out; first | omega | exact Nat.le_refl _⟩, ⟨mR HO_3.out⟩, ⟨mB HB.out⟩⟩
    ·rw [if_neg c5] at H
     have c5b0 : decide (x4_1 < (l0.length : Int)) = false := decide_eq_false c5
     clear c5
     (first | rw [c5b0] | (simp only [i64_w, i32_w]; rw [c5b0]) | skip)
     have H' := Aside0.mk H
     clear H
     go_wp2
     go_meet
     case rel => exact ⟨_, (false), ez, H', ⟨by have := HK1.out; first | omega | exact Nat.le_refl _⟩, ⟨mR HO_3.out⟩, ⟨mB HB.out⟩⟩
   case rest =>
    clear HC4
    (try clear c1); (try clear p2); (try clear c5); (try clear c5b0); (try clear p2)
    obtain ⟨kq, x13_3, rfl, HA, HJ3, HO_3, HB⟩ := hcut
    cases kq with
    | zero => exact absurd HA.out (by simp [prebendref16_Busy.j1])
    | succ kj3 =>
     have H := HA.out
     clear HA
     simp only [prebendref16_Busy.j1] at H
     by_cases c6 : x13_3 = true
     ·subst c6
      have H1 : (if 0 ≤ x4_1 then (if x4_1 < (l0.length : Int) then ((prebendref16_Held.f ((rd_T38 l0 x4_1).f0) 1125899906842624).bind fun t198 => ((prebendref16_Held.f ((rd_T38 l0 x4_1).f1) 1048576).bind fun t200 => (if x3_1.length < 8796093022208 then (prebendref16_Busy.l0 kj3 l0 (x3_1 ++ [(⟨t198, t200⟩ : S38)]) (wrap64 (x4_1 + 1))) else (none)))) else (none)) else (none)) = some r := by rw [if_pos rfl] at H; exact H
      clear H
      have H := H1
      clear H1
      by_cases c7 : 0 ≤ x4_1
      ·rw [if_pos c7] at H
       have c7b0 : decide (0 ≤ x4_1) = true := decide_eq_true c7
       clear c7
       by_cases c8 : x4_1 < (l0.length : Int)
       ·rw [if_pos c8] at H
        have c8b0 : decide (x4_1 < (l0.length : Int)) = true := decide_eq_true c8
        clear c8
        replace H := Option.bind_eq_some_iff.mp H
        obtain ⟨t198, A90, H⟩ := H
        replace H : ((prebendref16_Held.f ((rd_T38 l0 x4_1).f1) 1048576).bind fun t200 => (if x3_1.length < 8796093022208 then (prebendref16_Busy.l0 kj3 l0 (x3_1 ++ [(⟨t198, t200⟩ : S38)]) (wrap64 (x4_1 + 1))) else (none))) = some r := H
        have A9 := Aside0.mk A90
        clear A90
        replace H := Option.bind_eq_some_iff.mp H
        obtain ⟨t200, A100, H⟩ := H
        replace H : (if x3_1.length < 8796093022208 then (prebendref16_Busy.l0 kj3 l0 (x3_1 ++ [(⟨t198, t200⟩ : S38)]) (wrap64 (x4_1 + 1))) else (none)) = some r := H
        have A10 := Aside0.mk A100
        clear A100
        by_cases c11 : x3_1.length < 8796093022208
        ·rw [if_pos c11] at H
         have LMc11 := Aside0.mk c11
         clear c11
         obtain ⟨y201, hy201⟩ : ∃ y_ : List (S38), y_ = (x3_1 ++ [(⟨t198, t200⟩ : S38)]) := ⟨_, rfl⟩
         replace H : (prebendref16_Busy.l0 kj3 l0 y201 (wrap64 (x4_1 + 1))) = some r := mH hy201 H
         have Ny201 := Aside0.mk hy201
         clear hy201
         have H' := Aside0.mk H
         clear H
         try go_wp2
         have n0_ := Aside0.mk (Kd.R_drew HO_3.out)
         have n1_ := Aside0.mk (below_drew1 HB.out)
         clear HO_3; clear HB
         have HO_3 := n0_
         have HB := n1_
         clear n0_; clear n1_
         have p197 : 0 ≤ (x4_1 : Int) := oda
         have q197 : x4_1 < (l0.length : Int) := oda
         obtain ⟨ad197, e197, hx197_0, hx197_1⟩ := at_T38 HR0.out x4_1 p197 q197
         have hw197_1 := hx197_1
         have hw197_0 := hx197_0
         cases e197
         replace hx197_0 := (HB.out.cell (World.block_lt_of_cell? w _ hx197_0)).trans hx197_0
         replace hx197_1 := (HB.out.cell (World.block_lt_of_cell? w _ hx197_1)).trans hx197_1
         replace p197 := eq_true p197
         replace q197 := eq_true q197
         have p199 : 0 ≤ (x4_1 : Int) := oda
         have q199 : x4_1 < (l0.length : Int) := oda
         obtain ⟨ad199, e199, hx199_0, hx199_1⟩ := at_T38 HR0.out x4_1 p199 q199
         have hw199_1 := hx199_1
         have hw199_0 := hx199_0
         obtain rfl : ad197 = ad199 := (by injection e199)
         replace hx199_0 := (HB.out.cell (World.block_lt_of_cell? w _ hx199_0)).trans hx199_0
         replace hx199_1 := (HB.out.cell (World.block_lt_of_cell? w _ hx199_1)).trans hx199_1
         replace p199 := eq_true p199
         replace q199 := eq_true q199
         refine start_ (n := 17) (S := fun w' => w'.cell? (ad197.add ((x4_1).toNat * 2)) = some (.int .i64 ((rd_T38 l0 x4_1).f0)) ∧ w'.cell? ⟨(ad197.add ((x4_1).toNat * 2)).block, (ad197.add ((x4_1).toNat * 2)).off + 1, none⟩ = some (.int .i64 ((rd_T38 l0 x4_1).f1)) ∧ w'.cell? (ad197.add ((x4_1).toNat * 2)) = some (.int .i64 ((rd_T38 l0 x4_1).f0)) ∧ w'.cell? ⟨(ad197.add ((x4_1).toNat * 2)).block, (ad197.add ((x4_1).toNat * 2)).off + 1, none⟩ = some (.int .i64 ((rd_T38 l0 x4_1).f1))) (ds := []) #[false, false, false, false, false, false, false, false, false, false, false, false, false, false, false, false, false] (by kernel_rfl) rfl rfl ⟨((HB.out.cell (World.block_lt_of_cell? w _ hw197_0)).trans hw197_0), ((HB.out.cell (World.block_lt_of_cell? w _ hw197_1)).trans hw197_1), ((HB.out.cell (World.block_lt_of_cell? w _ hw199_0)).trans hw199_0), ((HB.out.cell (World.block_lt_of_cell? w _ hw199_1)).trans hw199_1)⟩ (fun hHeld => ?_); refine with_tabW prebendref16_Busy.tab5 prebendref16_Busy.bits5 (fun HT_ HW_ => ?_)
         generalize wc.drew = w12 at HO_3 HB hx197_0 hx197_1 hx199_0 hx199_1 hHeld ⊢
         refine plan_ [(0, 16), (1, 17), (2, 18), (3, 19), (4, 20), (7, 23), (8, 24), (9, 25), (10, 26)] ?_
         iterate 9 (refine planP_ (v := ?_) (a' := ?_) rfl rfl (any_of HT_.out (by kernel_rfl)) (fun _ _ _ h => h) (Or.inl ⟨by rfl, ?_⟩) ?_ ?_; rotate_left; (intro w'; go_simp; with_reducible rfl); rotate_left; (simp only [Act.put, List.setIfInBounds_toArray, List.set_cons_zero, List.set_cons_succ, i64_w, i32_w]; rfl))
         refine planEnd_ ?_
         refine plan_ [(5, 21), (11, 27)] ?_
         iterate 2 (refine planT_ (v := ?_) (a' := ?_) rfl rfl (take_ofW HT_.out HW_.out (by kernel_rfl)) (fun _ _ _ h => h) (Or.inl ⟨by rfl, ?_⟩) hHeld ?_ ?_; rotate_left; (rintro w' ⟨s0, s1, s2, s3⟩; go_simp; with_reducible rfl); rotate_left; (simp only [Act.put, List.setIfInBounds_toArray, List.set_cons_zero, List.set_cons_succ, i64_w, i32_w]; rfl))
         refine planEnd_ ?_
         refine one_ (i := 6) (N := some 22) #[true, true, true, true, true, true, true, true, true, true, true, true, false, false, false, false, false] rfl rfl (one_of HT_.out (by kernel_rfl)) (by decide) (fun K hK => ?_)
         refine goes_ Try.func13 (by kernel_rfl) rfl #[.int .i64 ((rd_T38 l0 x4_1).f0), .int .i64 1125899906842624] (by rfl) rfl rfl mt ?_
         with_reducible refine (prebendref16_Held.calls ((rd_T38 l0 x4_1).f0) 1125899906842624 t198 _ A9.out).mono ?_
         rintro e w' ⟨rfl, ⟨nd, rfl⟩⟩
         refine ⟨_, rfl, ?_⟩
         refine hK.out _ _ ⟨((HB.out.cell (World.block_lt_of_cell? w _ hw197_0)).trans hw197_0), ((HB.out.cell (World.block_lt_of_cell? w _ hw197_1)).trans hw197_1), ((HB.out.cell (World.block_lt_of_cell? w _ hw199_0)).trans hw199_0), ((HB.out.cell (World.block_lt_of_cell? w _ hw199_1)).trans hw199_1)⟩ (fun hHeld => ?_)
         clear hK; clear K
         refine norm_ (a' := ?_) ?_ ?_
         rotate_left
         ·show Act.put _ (some 22) _ = _
          simp only [Act.put, List.setIfInBounds_toArray, List.set_cons_zero, List.set_cons_succ, i64_w, i32_w]
          rfl
         refine one_ (i := 12) (N := some 28) #[true, true, true, true, true, true, true, true, true, true, true, true, true, false, false, false, false] rfl rfl (one_of HT_.out (by kernel_rfl)) (by decide) (fun K hK => ?_)
         refine goes_ Try.func13 (by kernel_rfl) rfl #[.int .i64 ((rd_T38 l0 x4_1).f1), .int .i64 1048576] (by rfl) rfl rfl mt ?_
         with_reducible refine (prebendref16_Held.calls ((rd_T38 l0 x4_1).f1) 1048576 t200 _ A10.out).mono ?_
         rintro e w' ⟨rfl, ⟨nd, rfl⟩⟩
         refine ⟨_, rfl, ?_⟩
         refine hK.out _ _ ⟨((HB.out.cell (World.block_lt_of_cell? w _ hw197_0)).trans hw197_0), ((HB.out.cell (World.block_lt_of_cell? w _ hw197_1)).trans hw197_1), ((HB.out.cell (World.block_lt_of_cell? w _ hw199_0)).trans hw199_0), ((HB.out.cell (World.block_lt_of_cell? w _ hw199_1)).trans hw199_1)⟩ (fun hHeld => ?_)
         clear hK; clear K
         refine norm_ (a' := ?_) ?_ ?_
         rotate_left
         ·show Act.put _ (some 28) _ = _
          simp only [Act.put, List.setIfInBounds_toArray, List.set_cons_zero, List.set_cons_succ, i64_w, i32_w]
          rfl
         refine plan_ [(13, 29)] ?_
         refine planP_ (v := ?_) (a' := ?_) rfl rfl (any_of HT_.out (by kernel_rfl)) (fun _ _ _ h => h) (Or.inl ⟨by rfl, ?_⟩) ?_ ?_; rotate_left; (intro w'; go_simp; with_reducible rfl); rotate_left; (simp only [Act.put, List.setIfInBounds_toArray, List.set_cons_zero, List.set_cons_succ, i64_w, i32_w]; rfl)
         refine planEnd_ ?_
         refine one_ (i := 14) (N := some 30) #[true, true, true, true, true, true, true, true, true, true, true, true, true, true, true, false, false] rfl rfl (one_of HT_.out (by kernel_rfl)) (by decide) (fun K hK => ?_)
         refine value_ (w1 := ?_) (v := ?_) (by rfl) rfl ?_ ?_
         rotate_left 2
         ·go_simp
          constructor
          ·rfl
          ·rfl
         refine hK.out _ _ ⟨(World.cell?_alloc_lt _ _ _ (World.block_lt_of_cell? _ _ (((HB.out.cell (World.block_lt_of_cell? w _ hw197_0)).trans hw197_0)))).trans (((HB.out.cell (World.block_lt_of_cell? w _ hw197_0)).trans hw197_0)), (World.cell?_alloc_lt _ _ _ (World.block_lt_of_cell? _ _ (((HB.out.cell (World.block_lt_of_cell? w _ hw197_1)).trans hw197_1)))).trans (((HB.out.cell (World.block_lt_of_cell? w _ hw197_1)).trans hw197_1)), (World.cell?_alloc_lt _ _ _ (World.block_lt_of_cell? _ _ (((HB.out.cell (World.block_lt_of_cell? w _ hw199_0)).trans hw199_0)))).trans (((HB.out.cell (World.block_lt_of_cell? w _ hw199_0)).trans hw199_0)), (World.cell?_alloc_lt _ _ _ (World.block_lt_of_cell? _ _ (((HB.out.cell (World.block_lt_of_cell? w _ hw199_1)).trans hw199_1)))).trans (((HB.out.cell (World.block_lt_of_cell? w _ hw199_1)).trans hw199_1))⟩ (fun hHeld => ?_)
         clear hK; clear K
         refine norm_ (a' := ?_) ?_ ?_
         rotate_left
         ·show Act.put _ (some 30) _ = _
          simp only [Act.put, List.setIfInBounds_toArray, List.set_cons_zero, List.set_cons_succ, i64_w, i32_w]
          rfl
         refine one_ (i := 15) (N := some 31) #[true, true, true, true, true, true, true, true, true, true, true, true, true, true, true, true, false] rfl rfl (one_of HT_.out (by kernel_rfl)) (by decide) (fun K hK => ?_)
         refine Kd.R_append_step k38 (w0 := w) w.heap.size (by rfl) (.tmp 16) (.tmp 30) 22 38 (.agg #[(.int .i64 0), (.int .i64 0)]) 16 rfl Try.underlying22 info38 rfl (by decide) (by omega) u3 x3_1 (⟨t198, t200⟩ : S38) [.int .i64 t198, .int .i64 t200] (fun _ => True) (fun _ => False) rfl rfl ?aP (fun _ hk => hk.elim) ?aF ?aO ?aB ?aS ?aL ?_
         (case aP => exact k38_mkM _ _ _ (⟨t198, t200⟩ : S38))
         (case aB => exact (mB HB.out))
         (case aF => exact (fun _ _ => trivial))
         (case aO => exact (mR HO_3.out))
         (case aS => exact (below_size (mB HB.out)))
         (case aL => have := LMc11.out; omega)
         intro v202 w13 ho hb hg hat
         rw [← Ny201.out] at ho
         have n0_ := Aside0.mk (hb)
         have n1_ := Aside0.mk (ho)
         clear HB; clear HO_3
         have HB := n0_
         have HO203 := n1_
         clear n0_; clear n1_; clear ho; clear hb; clear hg; clear hat
         refine hK.out _ _ ⟨((HB.out.cell (World.block_lt_of_cell? w _ hw197_0)).trans hw197_0), ((HB.out.cell (World.block_lt_of_cell? w _ hw197_1)).trans hw197_1), ((HB.out.cell (World.block_lt_of_cell? w _ hw199_0)).trans hw199_0), ((HB.out.cell (World.block_lt_of_cell? w _ hw199_1)).trans hw199_1)⟩ (fun hHeld => ?_)
         clear hK; clear K
         refine norm_ (a' := ?_) ?_ ?_
         rotate_left
         ·show Act.put _ (some 31) _ = _
          simp only [Act.put, List.setIfInBounds_toArray, List.set_cons_zero, List.set_cons_succ, i64_w, i32_w]
          rfl
         refine plan_ [(16, 3)] ?_
         refine planP_ (v := ?_) (a' := ?_) rfl rfl (any_of HT_.out (by kernel_rfl)) (fun _ _ _ h => h) (Or.inl ⟨by rfl, ?_⟩) ?_ ?_; rotate_left; (intro w'; go_simp; with_reducible rfl); rotate_left; (simp only [Act.put, List.setIfInBounds_toArray, List.set_cons_zero, List.set_cons_succ, i64_w, i32_w]; rfl)
         refine planEnd_ ?_
         refine done_ (done_of HT_.out (by kernel_rfl)) ?_
         try go_wp2
         go_roundg kj3
         case measure => have := HK1.out; have := HJ3.out; omega
         case rel => exact ⟨(y201), (wrap64 (x4_1 + 1)), ez, H', ⟨by have := HK1.out; have := HJ3.out; omega⟩, ⟨mR HO203.out⟩, ⟨mB HB.out⟩⟩
        ·rw [if_neg c11] at H
         exact absurd H (by simp)
       ·rw [if_neg c8] at H
        exact absurd H (by simp)
      ·rw [if_neg c7] at H
       exact absurd H (by simp)
     ·replace c6 := Bool.eq_false_iff.mpr c6
      subst c6
      have H1 : (some x3_1) = some r := by rw [if_neg (show ¬ (false = true) by decide)] at H; exact H
      clear H
      have H := H1
      clear H1
      obtain rfl := Option.some.inj H
      go_wp2
      go_ret
      exact ⟨_, by first | rfl | (simp [errW_none, errW_some] <;> rfl) | (simp [*, errW_none, errW_some] <;> rfl), mR HO_3.out, by repeat (first | (with_reducible first | exact HB.out | apply below_alloc | apply pw_below_drewN | apply below_drew1) | exact HB.out)⟩

end Go.Proofs.Ytedpoahndddgfaa.PAll
end
section
namespace Go.Proofs.Ytedpoahndddgfaa.PAll
open Go.RowKit Go.Proofs.YtedpoahndddgfaaW.PrintWords Go.Proofs.YtedpoahndddgfaaW.PrintLast Go.Proofs.YtedpoahndddgfaaW.PrintMore
attribute [local go_sem] max2_int min2_int max_two min_two max_three min_three max_four min_four   -- for this text's walks alone
set_option linter.unusedVariables false
set_option linter.unusedSimpArgs false

/-! ### prebendref17_Busy: function 25 -/
def prebendref17_Busy.l0 : Nat → List (S38) → Int → Option ((List (S38)))
 | 0, _, _ => none
 | k + 1, x3, x4 => if x4 < (x3.length : Int) then (if 0 ≤ x4 then ((prebendref16_Held.f ((rd_T38 x3 x4).f0) 562949953421312).bind fun t489 => (prebendref17_Busy.l0 k (x3.set (x4 : Int).toNat (⟨t489, (rd_T38 x3 x4).f1⟩ : S38)) (wrap64 (x4 + 1)))) else (none)) else (some x3)
def prebendref17_Busy.f (k : Nat) (l0 : List (S38)) : Option ((List (S38))) := (prebendref16_Busy.f k l0).bind fun t485 => (prebendref17_Busy.l0 k t485 0)
theorem prebendref17_Busy.mono_l : ∀ k, (∀ y0 y1, LeO (prebendref17_Busy.l0 k y0 y1) (prebendref17_Busy.l0 (k + 1) y0 y1))
 | 0 => fun _ _ r h => by simp [prebendref17_Busy.l0] at h
 | k + 1 => by
  have ih0 := prebendref17_Busy.mono_l k
  ·intro y0 y1
   unfold prebendref17_Busy.l0
   repeat' first
   | (with_reducible exact ih0 _ _)
   | (with_reducible exact prebendref16_Busy.mono _ _)
   | (with_reducible exact LeO.refl _)
   | (with_reducible exact LeO.none _)
   | (with_reducible refine LeO.ite ?_ ?_)
   | (with_reducible refine LeO.bind ?_ (fun _ => ?_))
   | exact ih0 _ _
   | exact prebendref16_Busy.mono _ _
   | exact LeO.none _
   | refine LeO.ite ?_ ?_
   | refine LeO.bind ?_ (fun _ => ?_)
theorem prebendref17_Busy.mono : ∀ a0 k, LeO (prebendref17_Busy.f k a0) (prebendref17_Busy.f (k + 1) a0) := by
 intro a0 k
 have ih0 := prebendref17_Busy.mono_l k
 unfold prebendref17_Busy.f
 repeat' first
   | (with_reducible exact ih0 _ _)
   | (with_reducible exact prebendref16_Busy.mono _ _)
   | (with_reducible exact LeO.refl _)
   | (with_reducible exact LeO.none _)
   | (with_reducible refine LeO.ite ?_ ?_)
   | (with_reducible refine LeO.bind ?_ (fun _ => ?_))
   | exact ih0 _ _
   | exact prebendref16_Busy.mono _ _
   | exact LeO.none _
   | refine LeO.ite ?_ ?_
   | refine LeO.bind ?_ (fun _ => ?_)
set_option maxHeartbeats 8000000 in
set_option maxRecDepth 100000 in
theorem prebendref17_Busy.calls (k : Nat) (A0 : Option Addr) (c0 : Nat) (l0 : List (S38)) (r : List (S38)) (w : World) (hr0 : Kd.C k38 w A0 l0.length l0) (hc0 : l0.length ≤ c0) (h : prebendref17_Busy.f k l0 = some r) :
  Calls Try.prog 25 #[.slice A0 l0.length c0] w fun e w' => ∃ v0_ : Value, e = .returned (v0_) ∧ Kd.R k38 38 w' w.heap.size (fun _ => True) v0_ r ∧ Below w.heap.size w w' := by
 have HR0 := Aside0.mk hr0
 have HC0 := Aside0.mk hc0
 clear hr0; clear hc0
 have HB := Aside0.mk (Below.refl w.heap.size w)
 have H : ((prebendref16_Busy.f k l0).bind fun t485 => (prebendref17_Busy.l0 k t485 0)) = some r := h
 clear h
 replace H := Option.bind_eq_some_iff.mp H
 obtain ⟨t485, A20, H⟩ := H
 replace H : (prebendref17_Busy.l0 k t485 0) = some r := H
 have A2 := Aside0.mk A20
 clear A20
 have H' := Aside0.mk H
 clear H
 go_enter Try.func25, Try.ntmps25
 go_wp2_with (first | ((with_reducible refine gate_callee (f := 15) rfl ?_); refine goesL_ (some 6) rfl rfl Try.func15 (by kernel_rfl) rfl #[.slice A0 l0.length c0] rfl mt ?_; (with_reducible refine (prebendref16_Busy.calls k _ _ l0 t485 _ ?side1 ?side2 A2.out).mono ?_); (case side1 => exact mC HR0.out); (case side2 => exact HC0.out); rintro e w3 ⟨v486, rfl, ho0, hb⟩; refine ⟨_, rfl, ?_⟩; have n0_ := Aside0.mk (Kd.R_lower ho0 (below_size (mB HB.out))); have n1_ := Aside0.mk (below_step (mB HB.out) hb); clear HB; have HO487 := n0_; have HB := n1_; clear n0_ n1_; (try clear hb); (try clear hb2); (try clear hk); (try clear hi); (try clear ho0)))
 (try simp only [Act.put, List.setIfInBounds_toArray, List.set_cons_zero, List.set_cons_succ])
 go_loopg [4] k (fun kq v4 w' => ∃ (x3_1 : List (S38)) (x4_1 : Int), v4 = .int .i64 x4_1 ∧ Aside0 (prebendref17_Busy.l0 kq x3_1 x4_1 = some r) ∧ Aside0 (kq ≤ k) ∧ Aside0 (Kd.R k38 38 w' w.heap.size (fun _ => True) v486 x3_1) ∧ Aside0 (Below w.heap.size w w'))
 case atStart => exact ⟨(t485), (0), ez, H', ⟨Nat.le_refl _⟩, ⟨mR HO487.out⟩, ⟨mB HB.out⟩⟩
 case round =>
  clear H'
  (try clear c1); (try clear c2); (try clear p2)
  obtain ⟨x3_1, x4_1, rfl, HA, HK1, HO_3, HB⟩ := hrel
  cases gk with
  | zero => exact absurd HA.out (by simp [prebendref17_Busy.l0])
  | succ k1 =>
   have H := HA.out
   clear HA
   simp only [prebendref17_Busy.l0] at H
   by_cases c4 : x4_1 < (x3_1.length : Int)
   ·rw [if_pos c4] at H
    have c4b0 : decide (x4_1 < (x3_1.length : Int)) = true := decide_eq_true c4
    clear c4
    by_cases c5 : 0 ≤ x4_1
    ·rw [if_pos c5] at H
     have c5b0 : decide (0 ≤ x4_1) = true := decide_eq_true c5
     clear c5
     replace H := Option.bind_eq_some_iff.mp H
     obtain ⟨t489, A60, H⟩ := H
     replace H : (prebendref17_Busy.l0 k1 (x3_1.set (x4_1 : Int).toNat (⟨t489, (rd_T38 x3_1 x4_1).f1⟩ : S38)) (wrap64 (x4_1 + 1))) = some r := H
     have A6 := Aside0.mk A60
     clear A60
     obtain ⟨y490, hy490⟩ : ∃ y_ : List (S38), y_ = (x3_1.set (x4_1 : Int).toNat (⟨t489, (rd_T38 x3_1 x4_1).f1⟩ : S38)) := ⟨_, rfl⟩
     replace H : (prebendref17_Busy.l0 k1 y490 (wrap64 (x4_1 + 1))) = some r := mH hy490 H
     have Ny490 := Aside0.mk hy490
     clear hy490
     have H' := Aside0.mk H
     clear H
     obtain ⟨Ao8, co8, eo8⟩ := Kd.R_slice HO_3.out
     subst eo8
     have p488 : 0 ≤ (x4_1 : Int) := oda
     have q488 : x4_1 < (x3_1.length : Int) := oda
     obtain ⟨ad488, e488, hx488_0, hx488_1⟩ := at_T38 (Kd.R_reads' HO_3.out).2.2 x4_1 p488 q488
     cases e488
     replace p488 := eq_true p488
     replace q488 := eq_true q488
     go_wp2_with (first | ((with_reducible refine gate_callee (f := 13) rfl ?_); refine goesL_ (some 20) rfl rfl Try.func13 (by kernel_rfl) rfl #[.int .i64 ((rd_T38 x3_1 x4_1).f0), .int .i64 562949953421312] rfl mt ?_; (with_reducible refine (prebendref16_Held.calls ((rd_T38 x3_1 x4_1).f0) 562949953421312 t489 _ A6.out).mono ?_); rintro e w' ⟨rfl, ⟨nd, rfl⟩⟩; refine ⟨_, rfl, ?_⟩; (try (rw [drewN_self wr]; generalize hq_ : World.drewN wr _ = wr; have n0_ : Aside0 (Kd.R k38 38 wr w.heap.size (fun _ => True) (.slice (some ad488) x3_1.length co8) x3_1) := ⟨by rw [← hq_]; exact (mR HO_3.out)⟩; have n1_ : Aside0 (Below w.heap.size w wr) := ⟨by rw [← hq_]; exact (mB HB.out)⟩; clear HO_3 HB hq_; have HO_3 := n0_; have HB := n1_; clear n0_ n1_)); have p7 : 0 ≤ (x4_1 : Int) := oda; have q7 : (x4_1 : Int) < ((x3_1.length : Int) : Int) := oda; obtain ⟨go7, co7, eo7, gb7, gl7, cl7, HG7⟩ := Kd.R_form HO_3.out (by omega); (first | cases eo7 | (injection eo7 with ea_ en_ ec_; (first | subst ea_ | (injection ea_ with ea_; subst ea_)); subst ec_; clear en_)); have GB7 := Aside0.mk gb7; have GG7 := Aside0.mk HG7; clear gb7 gl7 HG7; (first | simp only [add_plain] at hx488_0 | skip); (first | simp only [add_plain] at hx488_1 | skip); obtain ⟨ce7, hcl7, hM7, hcc7, hfr7⟩ := Kd.R_elem HO_3.out z38 (x4_1 : Int) p7 q7; obtain rfl := k38_openM hM7; have hx7_0 : wr.cell? ⟨go7, (x4_1 : Int).toNat * 2, none⟩ = some (.int .i64 ((rd_T38 x3_1 x4_1).f0)) := hcc7 0 _ rfl; have hx7_1 : wr.cell? ⟨go7, (x4_1 : Int).toNat * 2 + 1, none⟩ = some (.int .i64 ((rd_T38 x3_1 x4_1).f1)) := hcc7 1 _ rfl; have hf7_0 : wr.frozen? ⟨go7, (x4_1 : Int).toNat * 2, none⟩ = false := hfr7 0; have hf7_1 : wr.frozen? ⟨go7, (x4_1 : Int).toNat * 2 + 1, none⟩ = false := hfr7 1; clear hcl7 hcc7 hfr7 hM7; replace p7 := eq_true p7; replace q7 := eq_true q7; have HX9 := Aside0.mk (show Kd.R k38 38 wr w.heap.size (fun _ => True) (.slice (some ⟨go7, 0, none⟩) x3_1.length co8) x3_1 from (mR HO_3.out)); obtain ⟨ce9, hcl9, hM9, hcc9, hfr9⟩ := Kd.R_elem HX9.out z38 (x4_1 : Int) (oda) (by have h_ : (x4_1 : Int) < ((x3_1.length : Int) : Int) := oda; first | exact h_ | (have e_ := (Kd.R_reads' HO_3.out).1; omega) | simpa using h_); obtain rfl := k38_openM hM9; have HP9 := Kd.R_seg HX9.out (x4_1 : Int) (oda) (by have h_ : (x4_1 : Int) < ((x3_1.length : Int) : Int) := oda; first | exact h_ | (have e_ := (Kd.R_reads' HO_3.out).1; omega) | simpa using h_) (seg := [.int .i64 t489]) (j := 0) hcl9 hcc9 (show 1 ≤ 2 from by decide) (x' := (⟨t489, (rd_T38 x3_1 x4_1).f1⟩ : S38)) (k38_mkM _ _ _ (⟨t489, (rd_T38 x3_1 x4_1).f1⟩ : S38) ) (fun _ hk => hk); have hx9_0 := hcc9 0 _ rfl; (try simp only [show (k38).sz = 2 from rfl, Nat.mul_one, Nat.add_zero] at hx9_0); have hf9_0 := hfr9 0; (try simp only [show (k38).sz = 2 from rfl, Nat.mul_one, Nat.add_zero] at hf9_0); clear hcl9 hcc9 hfr9 hM9) | ((with_reducible refine gate_store (t := 3) (p := 22) rfl ?_); refine store_event (t := 3) (p := 22) (v := ?vo_w10) (w1 := (wr.setCell ⟨go7, (x4_1 : Int).toNat * 2, none⟩ (.int .i64 t489))) ?hg ?ho ?hn ?hr ?_; (case ho => rfl); (case hg => rfl); (case hn => rfl); (case hr => first | (go_simp; done) | (go_simp; rfl)); intro w10 hw; have hg : wr.grownBy w10 (some go7) := (by rw [hw]; exact HP9.2); have hp_ : Kd.R k38 38 w10 w.heap.size (fun _ => True) (.slice (some ⟨go7, 0, none⟩) x3_1.length co8) y490 := (by rw [hw, Ny490.out]; exact HP9.1); clear HP9; have n0_ := Aside0.mk (hp_); have n1_ := Aside0.mk ((by rw [hw]; exact below_set (HB.out) GB7.out : Below w.heap.size w w10)); clear HO_3; clear HB; have HO_3 := n0_; have HB := n1_; clear n0_ n1_; clear hg hw hp_))
     go_roundg k1
     case measure => have := HK1.out; omega
     case rel => exact ⟨(y490), (wrap64 (x4_1 + 1)), ez, H', ⟨by have := HK1.out; omega⟩, ⟨mR HO_3.out⟩, ⟨mB HB.out⟩⟩
    ·rw [if_neg c5] at H
     exact absurd H (by simp)
   ·rw [if_neg c4] at H
    have c4b0 : decide (x4_1 < (x3_1.length : Int)) = false := decide_eq_false c4
    clear c4
    obtain rfl := Option.some.inj H
    obtain ⟨Ao11, co11, eo11⟩ := Kd.R_slice HO_3.out
    subst eo11
    go_wp2
    go_ret
    exact ⟨_, by first | rfl | (simp [errW_none, errW_some] <;> rfl) | (simp [*, errW_none, errW_some] <;> rfl), mR HO_3.out, by repeat (first | (with_reducible first | exact HB.out | apply below_alloc | apply pw_below_drewN | apply below_drew1) | exact HB.out)⟩

end Go.Proofs.Ytedpoahndddgfaa.PAll
end
section
namespace Go.Proofs.Ytedpoahndddgfaa.PAll
open Go.RowKit Go.Proofs.YtedpoahndddgfaaW.PrintWords Go.Proofs.YtedpoahndddgfaaW.PrintLast Go.Proofs.YtedpoahndddgfaaW.PrintMore
attribute [local go_sem] max2_int min2_int max_two min_two max_three min_three max_four min_four   -- for this text's walks alone
set_option linter.unusedVariables false
set_option linter.unusedSimpArgs false

/-! ### prebendref17_Asks: function 26 -/
mutual
def prebendref17_Asks.l0 : Nat → List (S52) → List (S52) → Int → Option ((List (S52)))
 | 0, _, _, _ => none
 | k + 1, x0, x3, x4 => if x4 < (x0.length : Int) then (prebendref17_Asks.j1 k x0 x3 x4 (decide (x4 < 30))) else (prebendref17_Asks.j1 k x0 x3 x4 false)
def prebendref17_Asks.j1 : Nat → List (S52) → List (S52) → Int → Bool → Option ((List (S52)))
 | 0, _, _, _, _ => none
 | k + 1, x0, x3, x4, x13 => if x13 = true then (if 0 ≤ x4 then (if x4 < (x0.length : Int) then ((prebendref16_Held.f ((rd_T52 x0 x4).f0) 1048576).bind fun t495 => ((prebendref16_Held.f ((rd_T52 x0 x4).f1) 562949953421312).bind fun t497 => (if x3.length < 8796093022208 then (prebendref17_Asks.l0 k x0 (x3 ++ [(⟨t495, t497⟩ : S52)]) (wrap64 (x4 + 1))) else (none)))) else (none)) else (none)) else (some x3)
end
def prebendref17_Asks.f (k : Nat) (l0 : List (S52)) : Option ((List (S52))) := prebendref17_Asks.l0 k l0 (([] : List (S52))) 0
theorem prebendref17_Asks.mono_l : ∀ k, (∀ y0 y1 y2, LeO (prebendref17_Asks.l0 k y0 y1 y2) (prebendref17_Asks.l0 (k + 1) y0 y1 y2)) ∧ (∀ y0 y1 y2 y3, LeO (prebendref17_Asks.j1 k y0 y1 y2 y3) (prebendref17_Asks.j1 (k + 1) y0 y1 y2 y3))
 | 0 => ⟨fun _ _ _ r h => by simp [prebendref17_Asks.l0] at h, fun _ _ _ _ r h => by simp [prebendref17_Asks.j1] at h⟩
 | k + 1 => by
  obtain ⟨ih0, ih1⟩ := prebendref17_Asks.mono_l k
  refine ⟨?_, ?_⟩
  ·intro y0 y1 y2
   unfold prebendref17_Asks.l0
   repeat' first
   | (with_reducible exact ih0 _ _ _)
   | (with_reducible exact ih1 _ _ _ _)
   | (with_reducible exact LeO.refl _)
   | (with_reducible exact LeO.none _)
   | (with_reducible refine LeO.ite ?_ ?_)
   | (with_reducible refine LeO.bind ?_ (fun _ => ?_))
   | exact ih0 _ _ _
   | exact ih1 _ _ _ _
   | exact LeO.none _
   | refine LeO.ite ?_ ?_
   | refine LeO.bind ?_ (fun _ => ?_)
  ·intro y0 y1 y2 y3
   unfold prebendref17_Asks.j1
   repeat' first
   | (with_reducible exact ih0 _ _ _)
   | (with_reducible exact ih1 _ _ _ _)
   | (with_reducible exact LeO.refl _)
   | (with_reducible exact LeO.none _)
   | (with_reducible refine LeO.ite ?_ ?_)
   | (with_reducible refine LeO.bind ?_ (fun _ => ?_))
   | exact ih0 _ _ _
   | exact ih1 _ _ _ _
   | exact LeO.none _
   | refine LeO.ite ?_ ?_
   | refine LeO.bind ?_ (fun _ => ?_)
theorem prebendref17_Asks.mono : ∀ a0 k, LeO (prebendref17_Asks.f k a0) (prebendref17_Asks.f (k + 1) a0) := by
 intro a0 k
 obtain ⟨ih0, ih1⟩ := prebendref17_Asks.mono_l k
 unfold prebendref17_Asks.f
 repeat' first
   | (with_reducible exact ih0 _ _ _)
   | (with_reducible exact ih1 _ _ _ _)
   | (with_reducible exact LeO.refl _)
   | (with_reducible exact LeO.none _)
   | (with_reducible refine LeO.ite ?_ ?_)
   | (with_reducible refine LeO.bind ?_ (fun _ => ?_))
   | exact ih0 _ _ _
   | exact ih1 _ _ _ _
   | exact LeO.none _
   | refine LeO.ite ?_ ?_
   | refine LeO.bind ?_ (fun _ => ?_)
def prebendref17_Asks.T5 : Bool × List (List Nat × List Nat) := (true, [([], []), ([], []), ([], []), ([1, 2], [1, 2]), ([3], [3]), ([4], [4]), ([5], [5]), ([], []), ([], []), ([7, 8], [7, 8]), ([9], [9]), ([10], [10]), ([11, 6], [11]), ([6, 12], [6, 12]), ([13], [13]), ([0, 14, 12], [0, 14]), ([15, 15, 0, 1, 2, 3, 4, 5, 6, 7, 8, 9, 10, 11, 12, 13, 14, 15], [0, 15])])
def prebendref17_Asks.B5 : List Nat := [0, 0, 0, 6, 14, 30, 62, 0, 0, 384, 896, 1920, 4094, 8190, 16382, 32767, 65535]
theorem prebendref17_Asks.tab5 : rtab .any (opsOf Try.f26 5) = prebendref17_Asks.T5 := by kernel_rfl
theorem prebendref17_Asks.bits5 : waitsOk prebendref17_Asks.T5.2 prebendref17_Asks.B5 = true := by kernel_rfl
set_option maxHeartbeats 8000000 in
set_option maxRecDepth 100000 in
theorem prebendref17_Asks.calls (k : Nat) (A0 : Option Addr) (c0 : Nat) (l0 : List (S52)) (r : List (S52)) (w : World) (hr0 : Kd.C k52 w A0 l0.length l0) (hc0 : l0.length ≤ c0) (h : prebendref17_Asks.f k l0 = some r) :
  Calls Try.prog 26 #[.slice A0 l0.length c0] w fun e w' => ∃ v0_ : Value, e = .returned (v0_) ∧ Kd.R k52 52 w' w.heap.size (fun _ => True) v0_ r ∧ Below w.heap.size w w' := by
 have hu52 := Try.underlying52
 have HR0 := Aside0.mk hr0
 have HC0 := Aside0.mk hc0
 clear hr0; clear hc0
 have HB := Aside0.mk (Below.refl w.heap.size w)
 have H : (prebendref17_Asks.l0 k l0 (([] : List (S52))) 0) = some r := h
 clear h
 obtain ⟨y491, hy491⟩ : ∃ y_ : List (S52), y_ = (([] : List (S52))) := ⟨_, rfl⟩
 replace H : (prebendref17_Asks.l0 k l0 y491 0) = some r := mH hy491 H
 have Ny491 := Aside0.mk hy491
 clear hy491
 have H' := Aside0.mk H
 clear H
 go_enter Try.func26, Try.ntmps26
 go_wp2_with (first | ((with_reducible refine gate_dst (N := 5) rfl ?_); refine Kd.R_lit k52 _ 52 ?hg (N := 5) ?hd (xs := ([] : List (S52))) (inner := []) (ok := fun _ => True) (okp := fun _ => True) ?hr ?hp (fun _ hk => hk) trivial (Below.refl _ _) (Nat.le_refl _) (by simp) ?_; (case hd => rfl); (case hg => rfl); (case hr => first | (go_simp; done) | (go_simp; rfl)); (case hp => exact (Reps.none _ _)); intro v492 w2 ho3 hb hg_ hnew_; clear hg_ hnew_; (first | rw [← Ny491.out] at ho3 | (simp only [Int.reduceToNat] at ho3; rw [← Ny491.out] at ho3)); have n0_ := Aside0.mk (Kd.R_lower ho3 (below_size (mB HB.out))); have n1_ := Aside0.mk (below_step (mB HB.out) hb); clear HB; have HO493 := n0_; have HB := n1_; clear n0_ n1_; clear hb ho3))
 go_loopg [3, 4] k (fun kq v3 v4 w' => ∃ (x3_1 : List (S52)) (x4_1 : Int), v4 = .int .i64 x4_1 ∧ Aside0 (prebendref17_Asks.l0 kq l0 x3_1 x4_1 = some r) ∧ Aside0 (kq ≤ k) ∧ Aside0 (Kd.R k52 52 w' w.heap.size (fun _ => True) v3 x3_1) ∧ Aside0 (Below w.heap.size w w'))
 case atStart => exact ⟨(y491), (0), ez, H', ⟨Nat.le_refl _⟩, ⟨mR HO493.out⟩, ⟨mB HB.out⟩⟩
 case round =>
  clear H'
  (try clear c2); (try clear p2)
  obtain ⟨x3_1, x4_1, rfl, HA, HK1, HO_3, HB⟩ := hrel
  cases gk with
  | zero => exact absurd HA.out (by simp [prebendref17_Asks.l0])
  | succ k1 =>
   have H := HA.out
   clear HA
   simp only [prebendref17_Asks.l0] at H
   have HC4 := Aside0.mk H
   clear H
   go_upto_region 3 with (fail)
   go_cut [13] (fun v13 wc => ∃ (kq : Nat) (x13_3 : Bool), v13 = .bool x13_3 ∧ Aside0 (prebendref17_Asks.j1 kq l0 x3_1 x4_1 x13_3 = some r) ∧ Aside0 (kq ≤ k1) ∧ Aside0 (Kd.R k52 52 wc w.heap.size (fun _ => True) u3 x3_1) ∧ Aside0 (Below w.heap.size w wc))
   case first =>
    have H := HC4.out
    clear HC4
    by_cases c5 : x4_1 < (l0.length : Int)
    ·rw [if_pos c5] at H
     have c5b0 : decide (x4_1 < (l0.length : Int)) = true := decide_eq_true c5
     clear c5
     (first | rw [c5b0] | (simp only [i64_w, i32_w]; rw [c5b0]) | skip)
     have H' := Aside0.mk H
     clear H
     go_wp2
     go_meet
     case rel => exact ⟨_, (decide (x4_1 < 30)), ez, H', ⟨by have := HK1.out; first | omega | exact Nat.le_refl _⟩, ⟨mR HO_3.out⟩, ⟨mB HB.out⟩⟩
    ·rw [if_neg c5] at H
     have c5b0 : decide (x4_1 < (l0.length : Int)) = false := decide_eq_false c5
     clear c5
     (first | rw [c5b0] | (simp only [i64_w, i32_w]; rw [c5b0]) | skip)
     have H' := Aside0.mk H
     clear H
     go_wp2
     go_meet
     case rel => exact ⟨_, (false), ez, H', ⟨by have := HK1.out; first | omega | exact Nat.le_refl _⟩, ⟨mR HO_3.out⟩, ⟨mB HB.out⟩⟩
   case rest =>
    clear HC4
    (try clear c2); (try clear p2); (try clear c5); (try clear c5b0); (try clear p2)
    obtain ⟨kq, x13_3, rfl, HA, HJ3, HO_3, HB⟩ := hcut
    cases kq with
    | zero => exact absurd HA.out (by simp [prebendref17_Asks.j1])
    | succ kj3 =>
     have H := HA.out
     clear HA
     simp only [prebendref17_Asks.j1] at H
     by_cases c6 : x13_3 = true
     ·subst c6
      have H1 : (if 0 ≤ x4_1 then (if x4_1 < (l0.length : Int) then ((prebendref16_Held.f ((rd_T52 l0 x4_1).f0) 1048576).bind fun t495 => ((prebendref16_Held.f ((rd_T52 l0 x4_1).f1) 562949953421312).bind fun t497 => (if x3_1.length < 8796093022208 then (prebendref17_Asks.l0 kj3 l0 (x3_1 ++ [(⟨t495, t497⟩ : S52)]) (wrap64 (x4_1 + 1))) else (none)))) else (none)) else (none)) = some r := by rw [if_pos rfl] at H; exact H
      clear H
      have H := H1
      clear H1
      by_cases c7 : 0 ≤ x4_1
      ·rw [if_pos c7] at H
       have c7b0 : decide (0 ≤ x4_1) = true := decide_eq_true c7
       clear c7
       by_cases c8 : x4_1 < (l0.length : Int)
       ·rw [if_pos c8] at H
        have c8b0 : decide (x4_1 < (l0.length : Int)) = true := decide_eq_true c8
        clear c8
        replace H := Option.bind_eq_some_iff.mp H
        obtain ⟨t495, A90, H⟩ := H
        replace H : ((prebendref16_Held.f ((rd_T52 l0 x4_1).f1) 562949953421312).bind fun t497 => (if x3_1.length < 8796093022208 then (prebendref17_Asks.l0 kj3 l0 (x3_1 ++ [(⟨t495, t497⟩ : S52)]) (wrap64 (x4_1 + 1))) else (none))) = some r := H
        have A9 := Aside0.mk A90
        clear A90
        replace H := Option.bind_eq_some_iff.mp H
        obtain ⟨t497, A100, H⟩ := H
        replace H : (if x3_1.length < 8796093022208 then (prebendref17_Asks.l0 kj3 l0 (x3_1 ++ [(⟨t495, t497⟩ : S52)]) (wrap64 (x4_1 + 1))) else (none)) = some r := H
        have A10 := Aside0.mk A100
        clear A100
        by_cases c11 : x3_1.length < 8796093022208
        ·rw [if_pos c11] at H
         have LMc11 := Aside0.mk c11
         clear c11
         obtain ⟨y498, hy498⟩ : ∃ y_ : List (S52), y_ = (x3_1 ++ [(⟨t495, t497⟩ : S52)]) := ⟨_, rfl⟩
         replace H : (prebendref17_Asks.l0 kj3 l0 y498 (wrap64 (x4_1 + 1))) = some r := mH hy498 H
         have Ny498 := Aside0.mk hy498
         clear hy498
         have H' := Aside0.mk H
         clear H
         try go_wp2
         have n0_ := Aside0.mk (Kd.R_drew HO_3.out)
         have n1_ := Aside0.mk (below_drew1 HB.out)
         clear HO_3; clear HB
         have HO_3 := n0_
         have HB := n1_
         clear n0_; clear n1_
         have p494 : 0 ≤ (x4_1 : Int) := oda
         have q494 : x4_1 < (l0.length : Int) := oda
         obtain ⟨ad494, e494, hx494_0, hx494_1⟩ := at_T52 HR0.out x4_1 p494 q494
         have hw494_1 := hx494_1
         have hw494_0 := hx494_0
         cases e494
         replace hx494_0 := (HB.out.cell (World.block_lt_of_cell? w _ hx494_0)).trans hx494_0
         replace hx494_1 := (HB.out.cell (World.block_lt_of_cell? w _ hx494_1)).trans hx494_1
         replace p494 := eq_true p494
         replace q494 := eq_true q494
         have p496 : 0 ≤ (x4_1 : Int) := oda
         have q496 : x4_1 < (l0.length : Int) := oda
         obtain ⟨ad496, e496, hx496_0, hx496_1⟩ := at_T52 HR0.out x4_1 p496 q496
         have hw496_1 := hx496_1
         have hw496_0 := hx496_0
         obtain rfl : ad494 = ad496 := (by injection e496)
         replace hx496_0 := (HB.out.cell (World.block_lt_of_cell? w _ hx496_0)).trans hx496_0
         replace hx496_1 := (HB.out.cell (World.block_lt_of_cell? w _ hx496_1)).trans hx496_1
         replace p496 := eq_true p496
         replace q496 := eq_true q496
         refine start_ (n := 17) (S := fun w' => w'.cell? (ad494.add ((x4_1).toNat * 2)) = some (.int .i64 ((rd_T52 l0 x4_1).f0)) ∧ w'.cell? ⟨(ad494.add ((x4_1).toNat * 2)).block, (ad494.add ((x4_1).toNat * 2)).off + 1, none⟩ = some (.int .i64 ((rd_T52 l0 x4_1).f1)) ∧ w'.cell? (ad494.add ((x4_1).toNat * 2)) = some (.int .i64 ((rd_T52 l0 x4_1).f0)) ∧ w'.cell? ⟨(ad494.add ((x4_1).toNat * 2)).block, (ad494.add ((x4_1).toNat * 2)).off + 1, none⟩ = some (.int .i64 ((rd_T52 l0 x4_1).f1))) (ds := []) #[false, false, false, false, false, false, false, false, false, false, false, false, false, false, false, false, false] (by kernel_rfl) rfl rfl ⟨((HB.out.cell (World.block_lt_of_cell? w _ hw494_0)).trans hw494_0), ((HB.out.cell (World.block_lt_of_cell? w _ hw494_1)).trans hw494_1), ((HB.out.cell (World.block_lt_of_cell? w _ hw496_0)).trans hw496_0), ((HB.out.cell (World.block_lt_of_cell? w _ hw496_1)).trans hw496_1)⟩ (fun hHeld => ?_); refine with_tabW prebendref17_Asks.tab5 prebendref17_Asks.bits5 (fun HT_ HW_ => ?_)
         generalize wc.drew = w12 at HO_3 HB hx494_0 hx494_1 hx496_0 hx496_1 hHeld ⊢
         refine plan_ [(0, 16), (1, 17), (2, 18), (3, 19), (4, 20), (7, 23), (8, 24), (9, 25), (10, 26)] ?_
         iterate 9 (refine planP_ (v := ?_) (a' := ?_) rfl rfl (any_of HT_.out (by kernel_rfl)) (fun _ _ _ h => h) (Or.inl ⟨by rfl, ?_⟩) ?_ ?_; rotate_left; (intro w'; go_simp; with_reducible rfl); rotate_left; (simp only [Act.put, List.setIfInBounds_toArray, List.set_cons_zero, List.set_cons_succ, i64_w, i32_w]; rfl))
         refine planEnd_ ?_
         refine plan_ [(5, 21), (11, 27)] ?_
         iterate 2 (refine planT_ (v := ?_) (a' := ?_) rfl rfl (take_ofW HT_.out HW_.out (by kernel_rfl)) (fun _ _ _ h => h) (Or.inl ⟨by rfl, ?_⟩) hHeld ?_ ?_; rotate_left; (rintro w' ⟨s0, s1, s2, s3⟩; go_simp; with_reducible rfl); rotate_left; (simp only [Act.put, List.setIfInBounds_toArray, List.set_cons_zero, List.set_cons_succ, i64_w, i32_w]; rfl))
         refine planEnd_ ?_
         refine one_ (i := 6) (N := some 22) #[true, true, true, true, true, true, true, true, true, true, true, true, false, false, false, false, false] rfl rfl (one_of HT_.out (by kernel_rfl)) (by decide) (fun K hK => ?_)
         refine goes_ Try.func13 (by kernel_rfl) rfl #[.int .i64 ((rd_T52 l0 x4_1).f0), .int .i64 1048576] (by rfl) rfl rfl mt ?_
         with_reducible refine (prebendref16_Held.calls ((rd_T52 l0 x4_1).f0) 1048576 t495 _ A9.out).mono ?_
         rintro e w' ⟨rfl, ⟨nd, rfl⟩⟩
         refine ⟨_, rfl, ?_⟩
         refine hK.out _ _ ⟨((HB.out.cell (World.block_lt_of_cell? w _ hw494_0)).trans hw494_0), ((HB.out.cell (World.block_lt_of_cell? w _ hw494_1)).trans hw494_1), ((HB.out.cell (World.block_lt_of_cell? w _ hw496_0)).trans hw496_0), ((HB.out.cell (World.block_lt_of_cell? w _ hw496_1)).trans hw496_1)⟩ (fun hHeld => ?_)
         clear hK; clear K
         refine norm_ (a' := ?_) ?_ ?_
         rotate_left
         ·show Act.put _ (some 22) _ = _
          simp only [Act.put, List.setIfInBounds_toArray, List.set_cons_zero, List.set_cons_succ, i64_w, i32_w]
          rfl
         refine one_ (i := 12) (N := some 28) #[true, true, true, true, true, true, true, true, true, true, true, true, true, false, false, false, false] rfl rfl (one_of HT_.out (by kernel_rfl)) (by decide) (fun K hK => ?_)
         refine goes_ Try.func13 (by kernel_rfl) rfl #[.int .i64 ((rd_T52 l0 x4_1).f1), .int .i64 562949953421312] (by rfl) rfl rfl mt ?_
         with_reducible refine (prebendref16_Held.calls ((rd_T52 l0 x4_1).f1) 562949953421312 t497 _ A10.out).mono ?_
         rintro e w' ⟨rfl, ⟨nd, rfl⟩⟩
         refine ⟨_, rfl, ?_⟩
         refine hK.out _ _ ⟨((HB.out.cell (World.block_lt_of_cell? w _ hw494_0)).trans hw494_0), ((HB.out.cell (World.block_lt_of_cell? w _ hw494_1)).trans hw494_1), ((HB.out.cell (World.block_lt_of_cell? w _ hw496_0)).trans hw496_0), ((HB.out.cell (World.block_lt_of_cell? w _ hw496_1)).trans hw496_1)⟩ (fun hHeld => ?_)
         clear hK; clear K
         refine norm_ (a' := ?_) ?_ ?_
         rotate_left
         ·show Act.put _ (some 28) _ = _
          simp only [Act.put, List.setIfInBounds_toArray, List.set_cons_zero, List.set_cons_succ, i64_w, i32_w]
          rfl
         refine plan_ [(13, 29)] ?_
         refine planP_ (v := ?_) (a' := ?_) rfl rfl (any_of HT_.out (by kernel_rfl)) (fun _ _ _ h => h) (Or.inl ⟨by rfl, ?_⟩) ?_ ?_; rotate_left; (intro w'; go_simp; with_reducible rfl); rotate_left; (simp only [Act.put, List.setIfInBounds_toArray, List.set_cons_zero, List.set_cons_succ, i64_w, i32_w]; rfl)
         refine planEnd_ ?_
         refine one_ (i := 14) (N := some 30) #[true, true, true, true, true, true, true, true, true, true, true, true, true, true, true, false, false] rfl rfl (one_of HT_.out (by kernel_rfl)) (by decide) (fun K hK => ?_)
         refine value_ (w1 := ?_) (v := ?_) (by rfl) rfl ?_ ?_
         rotate_left 2
         ·go_simp
          constructor
          ·rfl
          ·rfl
         refine hK.out _ _ ⟨(World.cell?_alloc_lt _ _ _ (World.block_lt_of_cell? _ _ (((HB.out.cell (World.block_lt_of_cell? w _ hw494_0)).trans hw494_0)))).trans (((HB.out.cell (World.block_lt_of_cell? w _ hw494_0)).trans hw494_0)), (World.cell?_alloc_lt _ _ _ (World.block_lt_of_cell? _ _ (((HB.out.cell (World.block_lt_of_cell? w _ hw494_1)).trans hw494_1)))).trans (((HB.out.cell (World.block_lt_of_cell? w _ hw494_1)).trans hw494_1)), (World.cell?_alloc_lt _ _ _ (World.block_lt_of_cell? _ _ (((HB.out.cell (World.block_lt_of_cell? w _ hw496_0)).trans hw496_0)))).trans (((HB.out.cell (World.block_lt_of_cell? w _ hw496_0)).trans hw496_0)), (World.cell?_alloc_lt _ _ _ (World.block_lt_of_cell? _ _ (((HB.out.cell (World.block_lt_of_cell? w _ hw496_1)).trans hw496_1)))).trans (((HB.out.cell (World.block_lt_of_cell? w _ hw496_1)).trans hw496_1))⟩ (fun hHeld => ?_)
         clear hK; clear K
         refine norm_ (a' := ?_) ?_ ?_
         rotate_left
         ·show Act.put _ (some 30) _ = _
          simp only [Act.put, List.setIfInBounds_toArray, List.set_cons_zero, List.set_cons_succ, i64_w, i32_w]
          rfl
         refine one_ (i := 15) (N := some 31) #[true, true, true, true, true, true, true, true, true, true, true, true, true, true, true, true, false] rfl rfl (one_of HT_.out (by kernel_rfl)) (by decide) (fun K hK => ?_)
         refine Kd.R_append_step k52 (w0 := w) w.heap.size (by rfl) (.tmp 16) (.tmp 30) 44 52 (.agg #[(.int .i64 0), (.int .i64 0)]) 16 rfl Try.underlying44 info52 rfl (by decide) (by omega) u3 x3_1 (⟨t495, t497⟩ : S52) [.int .i64 t495, .int .i64 t497] (fun _ => True) (fun _ => False) rfl rfl ?aP (fun _ hk => hk.elim) ?aF ?aO ?aB ?aS ?aL ?_
         (case aP => exact k52_mkM _ _ _ (⟨t495, t497⟩ : S52))
         (case aB => exact (mB HB.out))
         (case aF => exact (fun _ _ => trivial))
         (case aO => exact (mR HO_3.out))
         (case aS => exact (below_size (mB HB.out)))
         (case aL => have := LMc11.out; omega)
         intro v499 w13 ho hb hg hat
         rw [← Ny498.out] at ho
         have n0_ := Aside0.mk (hb)
         have n1_ := Aside0.mk (ho)
         clear HB; clear HO_3
         have HB := n0_
         have HO500 := n1_
         clear n0_; clear n1_; clear ho; clear hb; clear hg; clear hat
         refine hK.out _ _ ⟨((HB.out.cell (World.block_lt_of_cell? w _ hw494_0)).trans hw494_0), ((HB.out.cell (World.block_lt_of_cell? w _ hw494_1)).trans hw494_1), ((HB.out.cell (World.block_lt_of_cell? w _ hw496_0)).trans hw496_0), ((HB.out.cell (World.block_lt_of_cell? w _ hw496_1)).trans hw496_1)⟩ (fun hHeld => ?_)
         clear hK; clear K
         refine norm_ (a' := ?_) ?_ ?_
         rotate_left
         ·show Act.put _ (some 31) _ = _
          simp only [Act.put, List.setIfInBounds_toArray, List.set_cons_zero, List.set_cons_succ, i64_w, i32_w]
          rfl
         refine plan_ [(16, 3)] ?_
         refine planP_ (v := ?_) (a' := ?_) rfl rfl (any_of HT_.out (by kernel_rfl)) (fun _ _ _ h => h) (Or.inl ⟨by rfl, ?_⟩) ?_ ?_; rotate_left; (intro w'; go_simp; with_reducible rfl); rotate_left; (simp only [Act.put, List.setIfInBounds_toArray, List.set_cons_zero, List.set_cons_succ, i64_w, i32_w]; rfl)
         refine planEnd_ ?_
         refine done_ (done_of HT_.out (by kernel_rfl)) ?_
         try go_wp2
         go_roundg kj3
         case measure => have := HK1.out; have := HJ3.out; omega
         case rel => exact ⟨(y498), (wrap64 (x4_1 + 1)), ez, H', ⟨by have := HK1.out; have := HJ3.out; omega⟩, ⟨mR HO500.out⟩, ⟨mB HB.out⟩⟩
        ·rw [if_neg c11] at H
         exact absurd H (by simp)
       ·rw [if_neg c8] at H
        exact absurd H (by simp)
      ·rw [if_neg c7] at H
       exact absurd H (by simp)
     ·replace c6 := Bool.eq_false_iff.mpr c6
      subst c6
      have H1 : (some x3_1) = some r := by rw [if_neg (show ¬ (false = true) by decide)] at H; exact H
      clear H
      have H := H1
      clear H1
      obtain rfl := Option.some.inj H
      go_wp2
      go_ret
      exact ⟨_, by first | rfl | (simp [errW_none, errW_some] <;> rfl) | (simp [*, errW_none, errW_some] <;> rfl), mR HO_3.out, by repeat (first | (with_reducible first | exact HB.out | apply below_alloc | apply pw_below_drewN | apply below_drew1) | exact HB.out)⟩

end Go.Proofs.Ytedpoahndddgfaa.PAll
end
section
namespace Go.Proofs.Ytedpoahndddgfaa.PAll
open Go.RowKit Go.Proofs.YtedpoahndddgfaaW.PrintWords Go.Proofs.YtedpoahndddgfaaW.PrintLast Go.Proofs.YtedpoahndddgfaaW.PrintMore
attribute [local go_sem] max2_int min2_int max_two min_two max_three min_three max_four min_four   -- for this text's walks alone
set_option linter.unusedVariables false
set_option linter.unusedSimpArgs false

/-! ### slices_Clone_Busy: function 39 -/
def slices_Clone_Busy.f (l0 : List (S38)) : Option ((List (S38))) := (some (([] : List (S38)) : List (S38))).bind fun y101 => (if y101.length + l0.length < 8796093022208 then (some (y101 ++ l0)) else (none))
set_option maxHeartbeats 8000000 in
set_option maxRecDepth 100000 in
theorem slices_Clone_Busy.calls_some (ad0_ : Addr) (c0 : Nat) (l0 : List (S38)) (r : List (S38)) (w : World) (hr0 : Kd.C k38 w (some ad0_) l0.length l0) (hc0 : l0.length ≤ c0) (h : slices_Clone_Busy.f l0 = some r) :
  Calls Try.prog 39 #[.slice (some ad0_) l0.length c0] w fun e w' => ∃ v0_ : Value, e = .returned (v0_) ∧ Kd.R k38 38 w' w.heap.size (fun _ => True) v0_ r ∧ Below w.heap.size w w' := by
 have HR0 := Aside0.mk hr0
 have HC0 := Aside0.mk hc0
 clear hr0; clear hc0
 have HB := Aside0.mk (Below.refl w.heap.size w)
 have H : ((some (([] : List (S38)) : List (S38))).bind fun y101 => (if y101.length + l0.length < 8796093022208 then (some (y101 ++ l0)) else (none))) = some r := h
 clear h
 obtain ⟨y101, hy101⟩ : ∃ y_ : List (S38), y_ = (([] : List (S38))) := ⟨_, rfl⟩
 replace H : (if y101.length + l0.length < 8796093022208 then (some (y101 ++ l0)) else (none)) = some r := mH hy101 H
 have Ny101 := Aside0.mk hy101
 clear hy101
 by_cases c2 : y101.length + l0.length < 8796093022208
 ·rw [if_pos c2] at H
  have LMc2 := Aside0.mk c2
  clear c2
  obtain ⟨y104, hy104⟩ : ∃ y_ : List (S38), y_ = (y101 ++ l0) := ⟨_, rfl⟩
  replace H : (some y104) = some r := mH hy104 H
  have Ny104 := Aside0.mk hy104
  clear hy104
  obtain rfl := Option.some.inj H
  have hnil_ := fun (W : World) => Lib.run_eql_slice_nil (P := Try.prog) W 22 38 (some ad0_) l0.length c0 0 0 Try.underlying22
  go_enter Try.func39, Try.ntmps39
  go_wp2_with (first | ((with_reducible refine gate_dst (N := 5) rfl ?_); refine Kd.R_lit k38 _ 38 ?hg (N := 5) ?hd (xs := ([] : List (S38))) (inner := []) (ok := fun _ => True) (okp := fun _ => True) ?hr ?hp (fun _ hk => hk) trivial (Below.refl _ _) (Nat.le_refl _) (by simp) ?_; (case hd => rfl); (case hg => rfl); (case hr => first | (go_simp; done) | (go_simp; rfl)); (case hp => exact (Reps.none _ _)); intro v102 w3 ho4 hb hg_ hnew_; clear hg_ hnew_; (first | rw [← Ny101.out] at ho4 | (simp only [Int.reduceToNat] at ho4; rw [← Ny101.out] at ho4)); have n0_ := Aside0.mk (Kd.R_lower ho4 (below_size (mB HB.out))); have n1_ := Aside0.mk (below_step (mB HB.out) hb); clear HB; have HO103 := n0_; have HB := n1_; clear n0_ n1_; clear hb ho4) | ((with_reducible refine gate_builtin (b := .append) (xs := #[.tmp 5, .tmp 6]) rfl ?_); at_builtin; refine Kd.R_append_rows k38 (w0 := w) w.heap.size rfl (.tmp 5) (.tmp 6) 22 38 (.agg #[(.int .i64 0), (.int .i64 0)]) 16 rfl Try.underlying22 info38 rfl (by decide) (by omega) v102 y101 l0 _ _ _ (fun _ => True) (fun _ => False) rfl rfl ?aO ?aR (fun _ _ h => h) (fun _ h => h.elim) ?aF ?aB ?aS ?aL ?_; (case aR => repeat (first | exact (Kd.C_below HR0.out HB.out) | (with_reducible refine Kd.C_alloc ?_ _) | (with_reducible refine Kd.C_drewN ?_ _) | (with_reducible refine Kd.C_drew ?_))); (case aB => exact (mB HB.out)); (case aF => exact (fun _ _ => trivial)); (case aO => exact (mR HO103.out)); (case aS => exact (below_size (mB HB.out))); (case aL => have := LMc2.out; omega); intro v105 w5 ho hb hg hat; rw [← Ny104.out] at ho; have n0_ := Aside0.mk (hb); have n1_ := Aside0.mk (ho); clear HB; clear HO103; have HB := n0_; have HO106 := n1_; clear n0_ n1_; clear ho hb hg hat))
  go_ret
  exact ⟨_, by first | rfl | (simp [errW_none, errW_some] <;> rfl) | (simp [*, errW_none, errW_some] <;> rfl), mR HO106.out, by repeat (first | (with_reducible first | exact HB.out | apply below_alloc | apply pw_below_drewN | apply below_drew1) | exact HB.out)⟩
 ·rw [if_neg c2] at H
  exact absurd H (by simp)

set_option maxHeartbeats 8000000 in
theorem slices_Clone_Busy.calls (A0 : Option Addr) (c0 : Nat) (l0 : List (S38)) (r : List (S38)) (w : World) (hr0 : Kd.C k38 w A0 l0.length l0) (hc0 : l0.length ≤ c0) (h : slices_Clone_Busy.f l0 = some r) :
  Calls Try.prog 39 #[.slice A0 l0.length c0] w fun e w' => ∃ v0_ : Value, e = .returned (v0_) ∧ Kd.R k38 38 w' w.heap.size (fun _ => True) v0_ r ∧ Below w.heap.size w w' := by
 cases A0 with
 | some ad0_ => exact slices_Clone_Busy.calls_some ad0_ c0 l0 r w hr0 hc0 h
 | none =>
  have hl : l0 = [] := by
   cases l0 with
   | nil => rfl
   | cons x xs => obtain ⟨ad, he, _⟩ := hr0.2.2 (by simp); cases he
  subst hl
  have hr : r = [] := by
   simp [slices_Clone_Busy.f] at h; first | exact h | exact h.symm
  subst hr
  have hnil_ := fun (W : World) => Lib.run_eql_slice_nil (P := Try.prog) W 22 38 none 0 c0 0 0 Try.underlying22
  clear hr0; clear hc0; clear h
  go_enter Try.func39, Try.ntmps39
  go_wp2
  go_ret
  exact ⟨_, rfl, Kd.R_nil _ _ _ _ _, Below.refl _ _⟩

end Go.Proofs.Ytedpoahndddgfaa.PAll
end
section
namespace Go.Proofs.Ytedpoahndddgfaa.PAll
open Go.RowKit Go.Proofs.YtedpoahndddgfaaW.PrintWords Go.Proofs.YtedpoahndddgfaaW.PrintLast Go.Proofs.YtedpoahndddgfaaW.PrintMore
attribute [local go_sem] max2_int min2_int max_two min_two max_three min_three max_four min_four   -- for this text's walks alone
set_option linter.unusedVariables false
set_option linter.unusedSimpArgs false

/-! ### slices_Clip_Step: function 58 -/
def slices_Clip_Step.f (l0 : List (S40)) : Option (List (S40)) := some l0
theorem slices_Clip_Step.cut (A : Option Addr) (n c : Nat) (hm : n ≤ c) : ∀ W : World, (Instr.slice 25 (.slice A n c) none (some (.int .i64 (n : Int))) (some (.int .i64 (n : Int)))).run Try.prog W = .ok (.slice A n n) W := by
 intro W
 obtain ⟨i0, hi, _, hsz, _⟩ := info_parts info40
 have ha : (A.map fun x => x.add 0) = A := by cases A <;> simp [Addr.add]
 have hn : (n : Int) ≤ (c : Int) := by omega
 simp [Instr.slice, run_underlying Try.underlying25, Instr.sliceBounds, run_sliceBound, sizeOf, typeInfo, hi, Result.andThen, ha, hn]
set_option maxHeartbeats 8000000 in
set_option maxRecDepth 100000 in
theorem slices_Clip_Step.calls (P0_ : Nat → Prop) (A0 : Option Addr) (c0 : Nat) (l0 : List (S40)) (r : List (S40)) (w : World) (hs0 : Kd.V k40 40 w w.heap.size (fun k_ => P0_ k_) (.slice A0 l0.length c0) l0) (h : slices_Clip_Step.f l0 = some r) :
  Calls Try.prog 58 #[.slice A0 l0.length c0] w fun e w' => ∃ v0_ : Value, e = .returned (v0_) ∧ Kd.V k40 40 w' w.heap.size (fun k_ => (P0_ k_ ∨ w.heap.size ≤ k_)) v0_ r ∧ Below w.heap.size w w' := by
 obtain rfl := Option.some.inj h
 have HO0 := Aside0.mk (show Kd.V k40 40 w w.heap.size (fun k_ => (P0_ k_ ∨ w.heap.size ≤ k_)) (.slice A0 l0.length l0.length) l0 from Kd.V_mk (Nat.le_refl _) (Kd.F_mono (Kd.V_F hs0) (fun k_ hk => .inl hk)))
 have hc := (Kd.V_reads' hs0).2.1
 have hcut := slices_Clip_Step.cut A0 l0.length c0 hc
 clear hs0; clear hc
 go_enter Try.func58, Try.ntmps58
 go_wp2
 go_ret
 exact ⟨_, rfl, HO0.out, Below.refl _ _⟩
end Go.Proofs.Ytedpoahndddgfaa.PAll
end
section
namespace Go.Proofs.Ytedpoahndddgfaa.PAll
open Go.RowKit Go.Proofs.YtedpoahndddgfaaW.PrintWords Go.Proofs.YtedpoahndddgfaaW.PrintLast Go.Proofs.YtedpoahndddgfaaW.PrintMore
attribute [local go_sem] max2_int min2_int max_two min_two max_three min_three max_four min_four   -- for this text's walks alone
set_option linter.unusedVariables false
set_option linter.unusedSimpArgs false

/-! ### cmp_isNaN_int: function 56 -/
def cmp_isNaN_int.f (a0 : Int) : Option (Bool) := some (a0 != a0)
set_option maxHeartbeats 8000000 in
set_option maxRecDepth 100000 in
theorem cmp_isNaN_int.calls (a0 : Int) (r : Bool) (w : World) (h : cmp_isNaN_int.f a0 = some r) :
  Calls Try.prog 56 #[.int .i64 a0] w fun e w' => e = .returned (.bool r) ∧ Drawn0 w w' := by
 have H : (some (a0 != a0)) = some r := h
 clear h
 obtain rfl := Option.some.inj H
 go_enter Try.func56, Try.ntmps56
 go_wp2
 go_ret
 exact ⟨by first | rfl | (simp; done) | (simp [*]; done), by repeat (first | exact Drawn0.refl _ | apply Drawn0.step)⟩

end Go.Proofs.Ytedpoahndddgfaa.PAll
end
section
namespace Go.Proofs.Ytedpoahndddgfaa.PAll
open Go.RowKit Go.Proofs.YtedpoahndddgfaaW.PrintWords Go.Proofs.YtedpoahndddgfaaW.PrintLast Go.Proofs.YtedpoahndddgfaaW.PrintMore
attribute [local go_sem] max2_int min2_int max_two min_two max_three min_three max_four min_four   -- for this text's walks alone
set_option linter.unusedVariables false
set_option linter.unusedSimpArgs false

/-! ### cmp_Compare_int: function 42 -/
def cmp_Compare_int.f (a0 : Int) (a1 : Int) : Option (Int) := (cmp_isNaN_int.f a0).bind fun t107 => ((cmp_isNaN_int.f a1).bind fun t108 => (if t107 = true then (if t108 = true then (some 0) else (some (-1))) else (if t108 = true then (some 1) else (if a0 < a1 then (some (-1)) else (if a0 > a1 then (some 1) else (some 0))))))
set_option maxHeartbeats 8000000 in
set_option maxRecDepth 100000 in
theorem cmp_Compare_int.calls (a0 : Int) (a1 : Int) (r : Int) (w : World) (h : cmp_Compare_int.f a0 a1 = some r) :
  Calls Try.prog 42 #[.int .i64 a0, .int .i64 a1] w fun e w' => e = .returned (.int .i64 r) ∧ Drawn0 w w' := by
 have H : ((cmp_isNaN_int.f a0).bind fun t107 => ((cmp_isNaN_int.f a1).bind fun t108 => (if t107 = true then (if t108 = true then (some 0) else (some (-1))) else (if t108 = true then (some 1) else (if a0 < a1 then (some (-1)) else (if a0 > a1 then (some 1) else (some 0))))))) = some r := h
 clear h
 replace H := Option.bind_eq_some_iff.mp H
 obtain ⟨t107, A30, H⟩ := H
 replace H : ((cmp_isNaN_int.f a1).bind fun t108 => (if t107 = true then (if t108 = true then (some 0) else (some (-1))) else (if t108 = true then (some 1) else (if a0 < a1 then (some (-1)) else (if a0 > a1 then (some 1) else (some 0)))))) = some r := H
 have A3 := Aside0.mk A30
 clear A30
 replace H := Option.bind_eq_some_iff.mp H
 obtain ⟨t108, A40, H⟩ := H
 replace H : (if t107 = true then (if t108 = true then (some 0) else (some (-1))) else (if t108 = true then (some 1) else (if a0 < a1 then (some (-1)) else (if a0 > a1 then (some 1) else (some 0))))) = some r := H
 have A4 := Aside0.mk A40
 clear A40
 by_cases c5 : t107 = true
 ·subst c5
  have H1 : (if t108 = true then (some 0) else (some (-1))) = some r := by rw [if_pos rfl] at H; exact H
  clear H
  have H := H1
  clear H1
  by_cases c6 : t108 = true
  ·subst c6
   have H1 : (some 0) = some r := by rw [if_pos rfl] at H; exact H
   clear H
   have H := H1
   clear H1
   obtain rfl := Option.some.inj H
   go_enter Try.func42, Try.ntmps42
   go_wp2_with (first | ((with_reducible refine gate_callee (f := 56) rfl ?_); refine goesL_ (some 8) rfl rfl Try.func56 (by kernel_rfl) rfl #[.int .i64 a0] rfl mt ?_; (with_reducible refine (cmp_isNaN_int.calls a0 true _ A3.out).mono ?_); rintro e w' ⟨rfl, ⟨nd, rfl⟩⟩; refine ⟨_, rfl, ?_⟩) | ((with_reducible refine gate_callee (f := 56) rfl ?_); refine goesL_ (some 10) rfl rfl Try.func56 (by kernel_rfl) rfl #[.int .i64 a1] rfl mt ?_; (with_reducible refine (cmp_isNaN_int.calls a1 true _ A4.out).mono ?_); rintro e w' ⟨rfl, ⟨nd, rfl⟩⟩; refine ⟨_, rfl, ?_⟩))
   go_ret
   exact ⟨by first | rfl | (simp; done) | (simp [*]; done), by repeat (first | exact Drawn0.refl _ | apply Drawn0.step)⟩
  ·replace c6 := Bool.eq_false_iff.mpr c6
   subst c6
   have H1 : (some (-1)) = some r := by rw [if_neg (show ¬ (false = true) by decide)] at H; exact H
   clear H
   have H := H1
   clear H1
   obtain rfl := Option.some.inj H
   go_enter Try.func42, Try.ntmps42
   go_wp2_with (first | ((with_reducible refine gate_callee (f := 56) rfl ?_); refine goesL_ (some 8) rfl rfl Try.func56 (by kernel_rfl) rfl #[.int .i64 a0] rfl mt ?_; (with_reducible refine (cmp_isNaN_int.calls a0 true _ A3.out).mono ?_); rintro e w' ⟨rfl, ⟨nd, rfl⟩⟩; refine ⟨_, rfl, ?_⟩) | ((with_reducible refine gate_callee (f := 56) rfl ?_); refine goesL_ (some 10) rfl rfl Try.func56 (by kernel_rfl) rfl #[.int .i64 a1] rfl mt ?_; (with_reducible refine (cmp_isNaN_int.calls a1 false _ A4.out).mono ?_); rintro e w' ⟨rfl, ⟨nd, rfl⟩⟩; refine ⟨_, rfl, ?_⟩))
   go_ret
   exact ⟨by first | rfl | (simp; done) | (simp [*]; done), by repeat (first | exact Drawn0.refl _ | apply Drawn0.step)⟩
 ·replace c5 := Bool.eq_false_iff.mpr c5
  subst c5
  have H1 : (if t108 = true then (some 1) else (if a0 < a1 then (some (-1)) else (if a0 > a1 then (some 1) else (some 0)))) = some r := by rw [if_neg (show ¬ (false = true) by decide)] at H; exact H
  clear H
  have H := H1
  clear H1
  by_cases c7 : t108 = true
  ·subst c7
   have H1 : (some 1) = some r := by rw [if_pos rfl] at H; exact H
   clear H
   have H := H1
   clear H1
   obtain rfl := Option.some.inj H
   go_enter Try.func42, Try.ntmps42
   go_wp2_with (first | ((with_reducible refine gate_callee (f := 56) rfl ?_); refine goesL_ (some 8) rfl rfl Try.func56 (by kernel_rfl) rfl #[.int .i64 a0] rfl mt ?_; (with_reducible refine (cmp_isNaN_int.calls a0 false _ A3.out).mono ?_); rintro e w' ⟨rfl, ⟨nd, rfl⟩⟩; refine ⟨_, rfl, ?_⟩) | ((with_reducible refine gate_callee (f := 56) rfl ?_); refine goesL_ (some 10) rfl rfl Try.func56 (by kernel_rfl) rfl #[.int .i64 a1] rfl mt ?_; (with_reducible refine (cmp_isNaN_int.calls a1 true _ A4.out).mono ?_); rintro e w' ⟨rfl, ⟨nd, rfl⟩⟩; refine ⟨_, rfl, ?_⟩))
   go_ret
   exact ⟨by first | rfl | (simp; done) | (simp [*]; done), by repeat (first | exact Drawn0.refl _ | apply Drawn0.step)⟩
  ·replace c7 := Bool.eq_false_iff.mpr c7
   subst c7
   have H1 : (if a0 < a1 then (some (-1)) else (if a0 > a1 then (some 1) else (some 0))) = some r := by rw [if_neg (show ¬ (false = true) by decide)] at H; exact H
   clear H
   have H := H1
   clear H1
   by_cases c8 : a0 < a1
   ·rw [if_pos c8] at H
    have c8b0 : decide (a0 < a1) = true := decide_eq_true c8
    clear c8
    obtain rfl := Option.some.inj H
    go_enter Try.func42, Try.ntmps42
    go_wp2_with (first | ((with_reducible refine gate_callee (f := 56) rfl ?_); refine goesL_ (some 8) rfl rfl Try.func56 (by kernel_rfl) rfl #[.int .i64 a0] rfl mt ?_; (with_reducible refine (cmp_isNaN_int.calls a0 false _ A3.out).mono ?_); rintro e w' ⟨rfl, ⟨nd, rfl⟩⟩; refine ⟨_, rfl, ?_⟩) | ((with_reducible refine gate_callee (f := 56) rfl ?_); refine goesL_ (some 10) rfl rfl Try.func56 (by kernel_rfl) rfl #[.int .i64 a1] rfl mt ?_; (with_reducible refine (cmp_isNaN_int.calls a1 false _ A4.out).mono ?_); rintro e w' ⟨rfl, ⟨nd, rfl⟩⟩; refine ⟨_, rfl, ?_⟩))
    go_ret
    exact ⟨by first | rfl | (simp; done) | (simp [*]; done), by repeat (first | exact Drawn0.refl _ | apply Drawn0.step)⟩
   ·rw [if_neg c8] at H
    have c8b0 : decide (a0 < a1) = false := decide_eq_false c8
    clear c8
    by_cases c9 : a0 > a1
    ·rw [if_pos c9] at H
     have c9b0 : decide (a1 < a0) = true := decide_eq_true c9
     clear c9
     obtain rfl := Option.some.inj H
     go_enter Try.func42, Try.ntmps42
     go_wp2_with (first | ((with_reducible refine gate_callee (f := 56) rfl ?_); refine goesL_ (some 8) rfl rfl Try.func56 (by kernel_rfl) rfl #[.int .i64 a0] rfl mt ?_; (with_reducible refine (cmp_isNaN_int.calls a0 false _ A3.out).mono ?_); rintro e w' ⟨rfl, ⟨nd, rfl⟩⟩; refine ⟨_, rfl, ?_⟩) | ((with_reducible refine gate_callee (f := 56) rfl ?_); refine goesL_ (some 10) rfl rfl Try.func56 (by kernel_rfl) rfl #[.int .i64 a1] rfl mt ?_; (with_reducible refine (cmp_isNaN_int.calls a1 false _ A4.out).mono ?_); rintro e w' ⟨rfl, ⟨nd, rfl⟩⟩; refine ⟨_, rfl, ?_⟩))
     go_ret
     exact ⟨by first | rfl | (simp; done) | (simp [*]; done), by repeat (first | exact Drawn0.refl _ | apply Drawn0.step)⟩
    ·rw [if_neg c9] at H
     have c9b0 : decide (a1 < a0) = false := decide_eq_false c9
     clear c9
     obtain rfl := Option.some.inj H
     go_enter Try.func42, Try.ntmps42
     go_wp2_with (first | ((with_reducible refine gate_callee (f := 56) rfl ?_); refine goesL_ (some 8) rfl rfl Try.func56 (by kernel_rfl) rfl #[.int .i64 a0] rfl mt ?_; (with_reducible refine (cmp_isNaN_int.calls a0 false _ A3.out).mono ?_); rintro e w' ⟨rfl, ⟨nd, rfl⟩⟩; refine ⟨_, rfl, ?_⟩) | ((with_reducible refine gate_callee (f := 56) rfl ?_); refine goesL_ (some 10) rfl rfl Try.func56 (by kernel_rfl) rfl #[.int .i64 a1] rfl mt ?_; (with_reducible refine (cmp_isNaN_int.calls a1 false _ A4.out).mono ?_); rintro e w' ⟨rfl, ⟨nd, rfl⟩⟩; refine ⟨_, rfl, ?_⟩))
     go_ret
     exact ⟨by first | rfl | (simp; done) | (simp [*]; done), by repeat (first | exact Drawn0.refl _ | apply Drawn0.step)⟩

end Go.Proofs.Ytedpoahndddgfaa.PAll
end
section
namespace Go.Proofs.Ytedpoahndddgfaa.PAll
open Go.RowKit Go.Proofs.YtedpoahndddgfaaW.PrintWords Go.Proofs.YtedpoahndddgfaaW.PrintLast Go.Proofs.YtedpoahndddgfaaW.PrintMore
attribute [local go_sem] max2_int min2_int max_two min_two max_three min_three max_four min_four   -- for this text's walks alone
set_option linter.unusedVariables false
set_option linter.unusedSimpArgs false

/-! ### profile_tidy_1: function 57 -/
def profile_tidy_1.f (a0_0 : Int) (a0_1 : Int) (a1_0 : Int) (a1_1 : Int) : Option (Int) := (cmp_Compare_int.f a0_0 a1_0).bind fun t114 => (some t114)
set_option maxHeartbeats 8000000 in
set_option maxRecDepth 100000 in
theorem profile_tidy_1.calls (a0_0 : Int) (a0_1 : Int) (a1_0 : Int) (a1_1 : Int) (r : Int) (w : World) (h : profile_tidy_1.f a0_0 a0_1 a1_0 a1_1 = some r) :
  Calls Try.prog 57 #[.agg #[.int .i64 a0_0, .int .i64 a0_1], .agg #[.int .i64 a1_0, .int .i64 a1_1]] w fun e w' => e = .returned (.int .i64 r) ∧ Below w.heap.size w w' := by
 have hu40 := Try.underlying40
 have HB := Aside0.mk (Below.refl w.heap.size w)
 have H : ((cmp_Compare_int.f a0_0 a1_0).bind fun t114 => (some t114)) = some r := h
 clear h
 replace H := Option.bind_eq_some_iff.mp H
 obtain ⟨t114, A30, H⟩ := H
 replace H : (some t114) = some r := H
 have A3 := Aside0.mk A30
 clear A30
 obtain rfl := Option.some.inj H
 go_enter Try.func57, Try.ntmps57
 go_wp2_with (first | ((with_reducible refine gate_dst (N := 2) rfl ?_); refine box_event ?hg (N := 2) ?hd (cs := #[.int .i64 a0_0, .int .i64 a0_1]) (t := 40) ?hr ?_; (case hd => rfl); (case hg => rfl); (case hr => first | (go_simp; done) | (go_simp; rfl)); intro gb112 hg w4 hbox hb; have n0_ := Aside0.mk (below_step (mB HB.out) hb); have n1_ := Aside0.mk (hbox); have n2_ := Aside0.mk ((by rw [hg]; exact (below_size (mB HB.out)) : w.heap.size ≤ gb112)); have n3_ := Aside0.mk ((by rw [hg]; exact (below_size (mB HB.out)) : w.heap.size ≤ gb112)); clear HB; have HB := n0_; have BK112 := n1_; have GW112 := n2_; have GE112 := n3_; clear n0_ n1_ n2_ n3_; clear hb hbox hg) | ((with_reducible refine gate_dst (N := 3) rfl ?_); refine box_event ?hg (N := 3) ?hd (cs := #[.int .i64 a1_0, .int .i64 a1_1]) (t := 40) ?hr ?_; (case hd => rfl); (case hg => rfl); (case hr => first | (go_simp; done) | (go_simp; rfl)); intro gb113 hg w5 hbox hb; have n0_ := Aside0.mk (blk_below (g := gb112) (o := .cells #[.int .i64 a0_0, .int .i64 a0_1] 40 (0, 0)) (mBK BK112.out) hb); have n1_ := Aside0.mk (below_step (mBs HB.out) hb); have n2_ := Aside0.mk (hbox); have n3_ := Aside0.mk ((by rw [hg]; exact (below_size (mBs HB.out)) : w.heap.size ≤ gb113)); have n4_ := Aside0.mk ((by rw [hg]; exact (below_size (mBs HB.out)) : w.heap.size ≤ gb113)); have n5_ := Aside0.mk ((by rw [hg]; exact Nat.ne_of_lt (blk_lt (g := gb112) (o := .cells #[.int .i64 a0_0, .int .i64 a0_1] 40 (0, 0)) (mBK BK112.out)) : gb112 ≠ gb113)); have n6_ := Aside0.mk ((by rw [hg]; exact Nat.ne_of_gt (blk_lt (g := gb112) (o := .cells #[.int .i64 a0_0, .int .i64 a0_1] 40 (0, 0)) (mBK BK112.out)) : gb113 ≠ gb112)); clear BK112; clear HB; have BK112 := n0_; have HB := n1_; have BK113 := n2_; have GW113 := n3_; have GE113 := n4_; have NB112_113 := n5_; have NB113_112 := n6_; clear n0_ n1_ n2_ n3_ n4_ n5_ n6_; clear hb hbox hg; have hnb6 := NB112_113.out; have hnc6 := NB113_112.out; have hcz7_0 : w5.cell? ⟨gb112, 0, none⟩ = some (.int .i64 a0_0) := (blk_cell BK112.out 0).trans rfl; have hcz7_1 : w5.cell? ⟨gb112, 1, none⟩ = some (.int .i64 a0_1) := (blk_cell BK112.out 1).trans rfl; have hfz7_0 := blk_frozen BK112.out 0; have hfz7_1 := blk_frozen BK112.out 1; have hcz8_0 : w5.cell? ⟨gb113, 0, none⟩ = some (.int .i64 a1_0) := (blk_cell BK113.out 0).trans rfl; have hcz8_1 : w5.cell? ⟨gb113, 1, none⟩ = some (.int .i64 a1_1) := (blk_cell BK113.out 1).trans rfl; have hfz8_0 := blk_frozen BK113.out 0; have hfz8_1 := blk_frozen BK113.out 1) | ((with_reducible refine gate_callee (f := 42) rfl ?_); refine goesL_ (some 9) rfl rfl Try.func42 (by kernel_rfl) rfl #[.int .i64 a0_0, .int .i64 a1_0] rfl mt ?_; (with_reducible refine (cmp_Compare_int.calls a0_0 a1_0 t114 _ A3.out).mono ?_); rintro e w' ⟨rfl, ⟨nd, rfl⟩⟩; refine ⟨_, rfl, ?_⟩))
 go_ret
 exact ⟨by first | rfl | (simp [errW_none, errW_some] <;> rfl) | (simp [*, errW_none, errW_some] <;> rfl), by repeat (first | (with_reducible first | exact HB.out | apply below_alloc | apply pw_below_drewN | apply below_drew1 | refine below_set ?_ GE112.out | refine below_set ?_ GE113.out) | exact HB.out)⟩

/-- What compares two steps: a function's number, and that it answers as profile.tidy's literal does. -/
structure Cmp40 (fv : Nat) (fn : Func) : Prop where
  hf : Try.prog.funcs[fv]? = some fn
  hname : (fn.name == "runtime.NumGoroutine") = false
  hb : fn.body.isSome = true
  calls : ∀ (a0_0 a0_1 a1_0 a1_1 r : Int) (w : World), profile_tidy_1.f a0_0 a0_1 a1_0 a1_1 = some r → Calls Try.prog fv #[.agg #[.int .i64 a0_0, .int .i64 a0_1], .agg #[.int .i64 a1_0, .int .i64 a1_1]] w fun e w' => e = .returned (.int .i64 r) ∧ Below w.heap.size w w'
theorem cmp57 : Cmp40 57 Try.f57 := ⟨Try.func57, by kernel_rfl, rfl, profile_tidy_1.calls⟩
end Go.Proofs.Ytedpoahndddgfaa.PAll
end
section
namespace Go.Proofs.Ytedpoahndddgfaa.PAll
open Go.RowKit Go.Proofs.YtedpoahndddgfaaW.PrintWords Go.Proofs.YtedpoahndddgfaaW.PrintLast Go.Proofs.YtedpoahndddgfaaW.PrintMore
attribute [local go_sem] max2_int min2_int max_two min_two max_three min_three max_four min_four   -- for this text's walks alone
set_option linter.unusedVariables false
set_option linter.unusedSimpArgs false

/-! ### slices_insertionSortCmpFunc_Step__profile_tidy_1: function 63 -/
mutual
def slices_insertionSortCmpFunc_Step__profile_tidy_1.l0 : Nat → List (S40) → Int → Int → Int → Option ((List (S40)))
 | 0, _, _, _, _ => none
 | k + 1, x0, x1, x2, x8 => if x8 < x2 then (slices_insertionSortCmpFunc_Step__profile_tidy_1.l1 k x0 x1 x2 x8 x8) else (some x0)
def slices_insertionSortCmpFunc_Step__profile_tidy_1.l1 : Nat → List (S40) → Int → Int → Int → Int → Option ((List (S40)))
 | 0, _, _, _, _, _ => none
 | k + 1, x0, x1, x2, x8, x9 => if x9 > x1 then (if 0 ≤ x9 then (if x9 < (x0.length : Int) then (if 0 ≤ (wrap64 (x9 - 1)) then (if (wrap64 (x9 - 1)) < (x0.length : Int) then ((profile_tidy_1.f ((rd_T40 x0 x9).f0) ((rd_T40 x0 x9).f1) ((rd_T40 x0 (wrap64 (x9 - 1))).f0) ((rd_T40 x0 (wrap64 (x9 - 1))).f1)).bind fun t117 => (if t117 < 0 then (slices_insertionSortCmpFunc_Step__profile_tidy_1.l1 k ((x0.set (x9 : Int).toNat (⟨(rd_T40 x0 (wrap64 (x9 - 1))).f0, (rd_T40 x0 (wrap64 (x9 - 1))).f1⟩ : S40)).set ((wrap64 (x9 - 1)) : Int).toNat (⟨(rd_T40 x0 x9).f0, (rd_T40 x0 x9).f1⟩ : S40)) x1 x2 x8 (wrap64 (x9 - 1))) else (slices_insertionSortCmpFunc_Step__profile_tidy_1.l0 k x0 x1 x2 (wrap64 (x8 + 1))))) else (none)) else (none)) else (none)) else (none)) else (slices_insertionSortCmpFunc_Step__profile_tidy_1.l0 k x0 x1 x2 (wrap64 (x8 + 1)))
end
def slices_insertionSortCmpFunc_Step__profile_tidy_1.f (k : Nat) (l0 : List (S40)) (a1 : Int) (a2 : Int)  : Option ((List (S40))) := slices_insertionSortCmpFunc_Step__profile_tidy_1.l0 k l0 a1 a2 (wrap64 (a1 + 1))
theorem slices_insertionSortCmpFunc_Step__profile_tidy_1.mono_l : ∀ k, (∀ y0 y1 y2 y3, LeO (slices_insertionSortCmpFunc_Step__profile_tidy_1.l0 k y0 y1 y2 y3) (slices_insertionSortCmpFunc_Step__profile_tidy_1.l0 (k + 1) y0 y1 y2 y3)) ∧ (∀ y0 y1 y2 y3 y4, LeO (slices_insertionSortCmpFunc_Step__profile_tidy_1.l1 k y0 y1 y2 y3 y4) (slices_insertionSortCmpFunc_Step__profile_tidy_1.l1 (k + 1) y0 y1 y2 y3 y4))
 | 0 => ⟨fun _ _ _ _ r h => by simp [slices_insertionSortCmpFunc_Step__profile_tidy_1.l0] at h, fun _ _ _ _ _ r h => by simp [slices_insertionSortCmpFunc_Step__profile_tidy_1.l1] at h⟩
 | k + 1 => by
  obtain ⟨ih0, ih1⟩ := slices_insertionSortCmpFunc_Step__profile_tidy_1.mono_l k
  refine ⟨?_, ?_⟩
  ·intro y0 y1 y2 y3
   unfold slices_insertionSortCmpFunc_Step__profile_tidy_1.l0
   repeat' first
   | (with_reducible exact ih0 _ _ _ _)
   | (with_reducible exact ih1 _ _ _ _ _)
   | (with_reducible exact LeO.refl _)
   | (with_reducible exact LeO.none _)
   | (with_reducible refine LeO.ite ?_ ?_)
   | (with_reducible refine LeO.bind ?_ (fun _ => ?_))
   | exact ih0 _ _ _ _
   | exact ih1 _ _ _ _ _
   | exact LeO.none _
   | refine LeO.ite ?_ ?_
   | refine LeO.bind ?_ (fun _ => ?_)
  ·intro y0 y1 y2 y3 y4
   unfold slices_insertionSortCmpFunc_Step__profile_tidy_1.l1
   repeat' first
   | (with_reducible exact ih0 _ _ _ _)
   | (with_reducible exact ih1 _ _ _ _ _)
   | (with_reducible exact LeO.refl _)
   | (with_reducible exact LeO.none _)
   | (with_reducible refine LeO.ite ?_ ?_)
   | (with_reducible refine LeO.bind ?_ (fun _ => ?_))
   | exact ih0 _ _ _ _
   | exact ih1 _ _ _ _ _
   | exact LeO.none _
   | refine LeO.ite ?_ ?_
   | refine LeO.bind ?_ (fun _ => ?_)
theorem slices_insertionSortCmpFunc_Step__profile_tidy_1.mono : ∀ a0 a1 a2 k, LeO (slices_insertionSortCmpFunc_Step__profile_tidy_1.f k a0 a1 a2) (slices_insertionSortCmpFunc_Step__profile_tidy_1.f (k + 1) a0 a1 a2) := by
 intro a0 a1 a2 k
 obtain ⟨ih0, ih1⟩ := slices_insertionSortCmpFunc_Step__profile_tidy_1.mono_l k
 unfold slices_insertionSortCmpFunc_Step__profile_tidy_1.f
 repeat' first
   | (with_reducible exact ih0 _ _ _ _)
   | (with_reducible exact ih1 _ _ _ _ _)
   | (with_reducible exact LeO.refl _)
   | (with_reducible exact LeO.none _)
   | (with_reducible refine LeO.ite ?_ ?_)
   | (with_reducible refine LeO.bind ?_ (fun _ => ?_))
   | exact ih0 _ _ _ _
   | exact ih1 _ _ _ _ _
   | exact LeO.none _
   | refine LeO.ite ?_ ?_
   | refine LeO.bind ?_ (fun _ => ?_)
def slices_insertionSortCmpFunc_Step__profile_tidy_1.T4 : Bool × List (List Nat × List Nat) := (true, [([], []), ([], []), ([0, 1], [0, 1]), ([2], [2]), ([3], [3]), ([3], [3]), ([3], [3]), ([5, 6, 3], [3, 5, 6]), ([7, 3], [3, 7]), ([3], [3]), ([3], [3]), ([10, 3], [3, 10]), ([9, 11, 3], [3, 9, 11]), ([12, 3], [3, 12]), ([4, 8, 13, 3, 3], [3, 4, 8, 13]), ([14, 3], [3, 14]), ([3, 15], [3, 15])])
def slices_insertionSortCmpFunc_Step__profile_tidy_1.B4 : List Nat := [0, 0, 3, 7, 15, 15, 15, 111, 239, 15, 15, 1039, 3599, 7695, 16383, 32767, 65535]
theorem slices_insertionSortCmpFunc_Step__profile_tidy_1.tab4 : rtab .any (opsOf Try.f63 4) = slices_insertionSortCmpFunc_Step__profile_tidy_1.T4 := by kernel_rfl
theorem slices_insertionSortCmpFunc_Step__profile_tidy_1.bits4 : waitsOk slices_insertionSortCmpFunc_Step__profile_tidy_1.T4.2 slices_insertionSortCmpFunc_Step__profile_tidy_1.B4 = true := by kernel_rfl
def slices_insertionSortCmpFunc_Step__profile_tidy_1.T6 : Bool × List (List Nat × List Nat) := (true, [([], []), ([], []), ([], []), ([], []), ([3], [3]), ([], []), ([], []), ([6], [6]), ([5, 7], [5, 7]), ([8], [8]), ([], []), ([], []), ([10, 11], [10, 11]), ([12], [12]), ([0, 1, 0, 1, 5, 6, 7, 8, 9, 13], [0, 1]), ([14, 9, 0, 1, 5, 6, 7, 8, 9, 13], [9, 14]), ([2, 4, 0, 1, 2, 3, 4, 5, 6, 7, 8, 9, 10, 11, 12, 13, 14, 15], [2, 4]), ([16, 13, 15, 0, 1, 2, 3, 4, 5, 6, 7, 8, 9, 10, 11, 12, 13, 14, 15], [13, 16])])
def slices_insertionSortCmpFunc_Step__profile_tidy_1.B6 : List Nat := [0, 0, 0, 0, 8, 0, 0, 64, 224, 480, 0, 0, 3072, 7168, 16355, 32739, 65535, 131071]
theorem slices_insertionSortCmpFunc_Step__profile_tidy_1.tab6 : rtab .any (opsOf Try.f63 6) = slices_insertionSortCmpFunc_Step__profile_tidy_1.T6 := by kernel_rfl
theorem slices_insertionSortCmpFunc_Step__profile_tidy_1.bits6 : waitsOk slices_insertionSortCmpFunc_Step__profile_tidy_1.T6.2 slices_insertionSortCmpFunc_Step__profile_tidy_1.B6 = true := by kernel_rfl
set_option maxHeartbeats 8000000 in
set_option maxRecDepth 100000 in
theorem slices_insertionSortCmpFunc_Step__profile_tidy_1.calls {fv_ : Nat} {fn_ : Func} (C_ : Cmp40 fv_ fn_) (k : Nat) (P0_ : Nat → Prop) (u9000_ : Value) (l0 : List (S40)) (a1 : Int) (a2 : Int)  (r : List (S40)) (w0 w : World) (hB : Below w0.heap.size w0 w) (ho0 : Kd.R k40 40 w w0.heap.size P0_ u9000_ l0) (h : slices_insertionSortCmpFunc_Step__profile_tidy_1.f k l0 a1 a2 = some r) :
  Calls Try.prog 63 #[u9000_, .int .i64 a1, .int .i64 a2, .func (.func fv_) #[] #[]] w fun e w' => e = .returned (.tuple #[]) ∧ Kd.R k40 40 w' w0.heap.size (fun k_ => (P0_ k_ ∨ w.heap.size ≤ k_)) u9000_ r ∧ Below w0.heap.size w0 w' ∧ Kept w w' (fun k_ => P0_ k_) := by
 have hu40 := Try.underlying40
 have HO0 := Aside0.mk (show Kd.R k40 40 w w0.heap.size (fun k_ => (P0_ k_ ∨ w.heap.size ≤ k_)) u9000_ l0 from Kd.R_mono ho0 (fun k_ hk => (.inl hk)))
 have HK := Aside0.mk (Kept.refl w (fun k_ => P0_ k_))
 have HW0 := Aside0.mk hB.size
 have HB := Aside0.mk hB
 clear hB
 have H : (slices_insertionSortCmpFunc_Step__profile_tidy_1.l0 k l0 a1 a2 (wrap64 (a1 + 1))) = some r := h
 clear h
 have H' := Aside0.mk H
 clear H
 go_enter Try.func63, Try.ntmps63
 go_wp2
 go_loopg [8] k (fun kq v8 w' => ∃ (x0_1 : List (S40)) (x8_1 : Int), v8 = .int .i64 x8_1 ∧ Aside0 (slices_insertionSortCmpFunc_Step__profile_tidy_1.l0 kq x0_1 a1 a2 x8_1 = some r) ∧ Aside0 (kq ≤ k) ∧ Aside0 (Kd.R k40 40 w' w0.heap.size (fun k_ => (P0_ k_ ∨ w.heap.size ≤ k_)) u9000_ x0_1) ∧ Aside0 (Kept w w' (fun k_ => P0_ k_)) ∧ Aside0 (Below w0.heap.size w0 w'))
 case atStart => exact ⟨(l0), (wrap64 (a1 + 1)), ez, H', ⟨Nat.le_refl _⟩, ⟨mR HO0.out⟩, ⟨mK HK.out⟩, ⟨mB HB.out⟩⟩
 case round =>
  clear H'
  (try clear p2)
  obtain ⟨x0_1, x8_1, rfl, HA, HK1, HO_0, HK, HB⟩ := hrel
  cases gk with
  | zero => exact absurd HA.out (by simp [slices_insertionSortCmpFunc_Step__profile_tidy_1.l0])
  | succ k1 =>
   have H := HA.out
   clear HA
   simp only [slices_insertionSortCmpFunc_Step__profile_tidy_1.l0] at H
   by_cases c5 : x8_1 < a2
   ·rw [if_pos c5] at H
    have c5b0 : decide (x8_1 < a2) = true := decide_eq_true c5
    clear c5
    have H' := Aside0.mk H
    clear H
    go_wp2
    go_loopg [9] k1 (fun kq v9 w' => ∃ (x0_2 : List (S40)) (x9_2 : Int), v9 = .int .i64 x9_2 ∧ Aside0 (slices_insertionSortCmpFunc_Step__profile_tidy_1.l1 kq x0_2 a1 a2 x8_1 x9_2 = some r) ∧ Aside0 (kq ≤ k1) ∧ Aside0 (Kd.R k40 40 w' w0.heap.size (fun k_ => (P0_ k_ ∨ w.heap.size ≤ k_)) u9000_ x0_2) ∧ Aside0 (Kept w w' (fun k_ => P0_ k_)) ∧ Aside0 (Below w0.heap.size w0 w'))
    case atStart => exact ⟨(x0_1), (x8_1), ez, H', ⟨Nat.le_refl _⟩, ⟨mR HO_0.out⟩, ⟨mK HK.out⟩, ⟨mB HB.out⟩⟩
    case round =>
     clear H'
     (try clear p2); (try clear c5); (try clear c5b0); (try clear p2)
     obtain ⟨x0_2, x9_2, rfl, HA, HK2, HO_0, HK, HB⟩ := hrel
     cases gk with
     | zero => exact absurd HA.out (by simp [slices_insertionSortCmpFunc_Step__profile_tidy_1.l1])
     | succ k2 =>
      have H := HA.out
      clear HA
      simp only [slices_insertionSortCmpFunc_Step__profile_tidy_1.l1] at H
      by_cases c6 : x9_2 > a1
      ·rw [if_pos c6] at H
       have c6b0 : decide (a1 < x9_2) = true := decide_eq_true c6
       clear c6
       by_cases c7 : 0 ≤ x9_2
       ·rw [if_pos c7] at H
        have c7b0 : decide (0 ≤ x9_2) = true := decide_eq_true c7
        clear c7
        by_cases c8 : x9_2 < (x0_2.length : Int)
        ·rw [if_pos c8] at H
         have c8b0 : decide (x9_2 < (x0_2.length : Int)) = true := decide_eq_true c8
         clear c8
         obtain ⟨ji9, hji9⟩ : ∃ j_ : Int, (wrap64 (x9_2 - 1)) = j_ := ⟨_, rfl⟩
         replace H : (if 0 ≤ (ji9) then (if (ji9) < (x0_2.length : Int) then ((profile_tidy_1.f ((rd_T40 x0_2 x9_2).f0) ((rd_T40 x0_2 x9_2).f1) ((rd_T40 x0_2 (ji9)).f0) ((rd_T40 x0_2 (ji9)).f1)).bind fun t117 => (if t117 < 0 then (slices_insertionSortCmpFunc_Step__profile_tidy_1.l1 k2 ((x0_2.set (x9_2 : Int).toNat (⟨(rd_T40 x0_2 (ji9)).f0, (rd_T40 x0_2 (ji9)).f1⟩ : S40)).set ((ji9) : Int).toNat (⟨(rd_T40 x0_2 x9_2).f0, (rd_T40 x0_2 x9_2).f1⟩ : S40)) a1 a2 x8_1 ji9) else (slices_insertionSortCmpFunc_Step__profile_tidy_1.l0 k2 x0_2 a1 a2 (wrap64 (x8_1 + 1))))) else (none)) else (none)) = some r := by first | (rw [hji9] at H; exact H) | (simp only [hji9] at H ⊢; exact H)
         have hji9w : (IntKind.i64.wrap (x9_2 - 1)) = ji9 := (i64_w _).trans hji9
         by_cases c10 : 0 ≤ (ji9)
         ·rw [if_pos c10] at H
          have c10b0 : decide (0 ≤ (ji9)) = true := decide_eq_true c10
          clear c10
          by_cases c11 : (ji9) < (x0_2.length : Int)
          ·rw [if_pos c11] at H
           have c11b0 : decide ((ji9) < (x0_2.length : Int)) = true := decide_eq_true c11
           clear c11
           replace H := Option.bind_eq_some_iff.mp H
           obtain ⟨t117, A120, H⟩ := H
           replace H : (if t117 < 0 then (slices_insertionSortCmpFunc_Step__profile_tidy_1.l1 k2 ((x0_2.set (x9_2 : Int).toNat (⟨(rd_T40 x0_2 (ji9)).f0, (rd_T40 x0_2 (ji9)).f1⟩ : S40)).set ((ji9) : Int).toNat (⟨(rd_T40 x0_2 x9_2).f0, (rd_T40 x0_2 x9_2).f1⟩ : S40)) a1 a2 x8_1 ji9) else (slices_insertionSortCmpFunc_Step__profile_tidy_1.l0 k2 x0_2 a1 a2 (wrap64 (x8_1 + 1)))) = some r := H
           have A12 := Aside0.mk A120
           clear A120
           by_cases c13 : t117 < 0
           ·rw [if_pos c13] at H
            have c13b0 : decide (t117 < 0) = true := decide_eq_true c13
            clear c13
            obtain ⟨y120, hy120⟩ : ∃ y_ : List (S40), y_ = (x0_2.set (x9_2 : Int).toNat (⟨(rd_T40 x0_2 (ji9)).f0, (rd_T40 x0_2 (ji9)).f1⟩ : S40)) := ⟨_, rfl⟩
            replace H : (slices_insertionSortCmpFunc_Step__profile_tidy_1.l1 k2 (y120.set ((ji9) : Int).toNat (⟨(rd_T40 x0_2 x9_2).f0, (rd_T40 x0_2 x9_2).f1⟩ : S40)) a1 a2 x8_1 ji9) = some r := mH hy120 H
            have Ny120 := Aside0.mk hy120
            clear hy120
            obtain ⟨y121, hy121⟩ : ∃ y_ : List (S40), y_ = (y120.set ((ji9) : Int).toNat (⟨(rd_T40 x0_2 x9_2).f0, (rd_T40 x0_2 x9_2).f1⟩ : S40)) := ⟨_, rfl⟩
            replace H : (slices_insertionSortCmpFunc_Step__profile_tidy_1.l1 k2 y121 a1 a2 x8_1 ji9) = some r := mH hy121 H
            have Ny121 := Aside0.mk hy121
            clear hy121
            have H' := Aside0.mk H
            clear H
            try go_wp2
            have n0_ := Aside0.mk (Kd.R_drew HO_0.out)
            have n1_ := Aside0.mk (Kept.drew HK.out)
            have n2_ := Aside0.mk (below_drew1 HB.out)
            clear HO_0; clear HK; clear HB
            have HO_0 := n0_
            have HK := n1_
            have HB := n2_
            clear n0_; clear n1_; clear n2_
            obtain ⟨Ao17, co17, eo17⟩ := Kd.R_slice HO_0.out
            (first | subst eo17 | (injection eo17 with f1_ f2_ f3_; have f4_ := f1_.symm; have f5_ := f3_.symm; clear f1_ f2_ f3_; subst f4_; subst f5_))
            have p115 : 0 ≤ (x9_2 : Int) := oda
            have q115 : x9_2 < (x0_2.length : Int) := oda
            obtain ⟨ad115, e115, hx115_0, hx115_1⟩ := at_T40 (Kd.R_reads' HO_0.out).2.2 x9_2 p115 q115
            cases e115
            replace p115 := eq_true p115
            replace q115 := eq_true q115
            have p116 : 0 ≤ ((ji9) : Int) := oda
            have q116 : (ji9) < (x0_2.length : Int) := oda
            obtain ⟨ad116, e116, hx116_0, hx116_1⟩ := at_T40 (Kd.R_reads' HO_0.out).2.2 (ji9) p116 q116
            obtain rfl : ad115 = ad116 := (by injection e116)
            replace p116 := eq_true p116
            replace q116 := eq_true q116
            refine start_ (n := 17) (S := fun w' => w'.cell? (ad115.add ((x9_2).toNat * 2)) = some (.int .i64 ((rd_T40 x0_2 x9_2).f0)) ∧ w'.cell? ⟨(ad115.add ((x9_2).toNat * 2)).block, (ad115.add ((x9_2).toNat * 2)).off + 1, none⟩ = some (.int .i64 ((rd_T40 x0_2 x9_2).f1)) ∧ w'.cell? (ad115.add (((ji9)).toNat * 2)) = some (.int .i64 ((rd_T40 x0_2 (ji9)).f0)) ∧ w'.cell? ⟨(ad115.add (((ji9)).toNat * 2)).block, (ad115.add (((ji9)).toNat * 2)).off + 1, none⟩ = some (.int .i64 ((rd_T40 x0_2 (ji9)).f1))) (ds := []) #[false, false, false, false, false, false, false, false, false, false, false, false, false, false, false, false, false] (by kernel_rfl) rfl rfl ⟨hx115_0, hx115_1, hx116_0, hx116_1⟩ (fun hHeld => ?_); refine with_tabW slices_insertionSortCmpFunc_Step__profile_tidy_1.tab4 slices_insertionSortCmpFunc_Step__profile_tidy_1.bits4 (fun HT_ HW_ => ?_)
            generalize wr.drew = w16 at HO_0 HK HB hx115_0 hx115_1 hx116_0 hx116_1 hHeld ⊢
            refine plan_ [(0, 18), (1, 19), (2, 20), (3, 21), (4, 22), (5, 23), (6, 24), (7, 25), (9, 27), (10, 28), (11, 29), (12, 30)] ?_
            iterate 12 (refine planP_ (v := ?_) (a' := ?_) rfl rfl (any_of HT_.out (by kernel_rfl)) (fun _ _ _ h => h) (Or.inl ⟨by rfl, ?_⟩) ?_ ?_; rotate_left; (intro w'; go_simp; with_reducible rfl); rotate_left; (simp only [Act.put, List.setIfInBounds_toArray, List.set_cons_zero, List.set_cons_succ, i64_w, i32_w]; rfl))
            refine planEnd_ ?_
            refine plan_ [(8, 26), (13, 31)] ?_
            iterate 2 (refine planT_ (v := ?_) (a' := ?_) rfl rfl (take_ofW HT_.out HW_.out (by kernel_rfl)) (fun _ _ _ h => h) (Or.inl ⟨by rfl, ?_⟩) hHeld ?_ ?_; rotate_left; (rintro w' ⟨s0, s1, s2, s3⟩; go_simp; with_reducible rfl); rotate_left; (simp only [Act.put, List.setIfInBounds_toArray, List.set_cons_zero, List.set_cons_succ, i64_w, i32_w]; rfl))
            refine planEnd_ ?_
            refine one_ (i := 14) (N := some 32) #[true, true, true, true, true, true, true, true, true, true, true, true, true, true, true, false, false] rfl rfl (one_of HT_.out (by kernel_rfl)) (by decide) (fun K hK => ?_)
            refine goesV_ C_.hf C_.hname C_.hb #[.agg #[.int .i64 ((rd_T40 x0_2 x9_2).f0), .int .i64 ((rd_T40 x0_2 x9_2).f1)], .agg #[.int .i64 ((rd_T40 x0_2 (ji9)).f0), .int .i64 ((rd_T40 x0_2 (ji9)).f1)]] (by rfl) rfl rfl (by (try simp only [List.map_toArray, List.map_cons, List.map_nil]); first | done | (simp only [hji9]; rfl) | rfl | (simp only [List.length_drop, List.length_take]; rfl)) rfl ?_
            with_reducible refine (C_.calls ((rd_T40 x0_2 x9_2).f0) ((rd_T40 x0_2 x9_2).f1) ((rd_T40 x0_2 (ji9)).f0) ((rd_T40 x0_2 (ji9)).f1) t117 _ A12.out).mono ?_
            rintro e w18 ⟨rfl, hb⟩
            have HS0_ := (hb.cell (World.block_lt_of_cell? _ _ (hHeld.1))).trans (hHeld.1)
            have HS1_ := (hb.cell (World.block_lt_of_cell? _ _ (hHeld.2.1))).trans (hHeld.2.1)
            have HS2_ := (hb.cell (World.block_lt_of_cell? _ _ (hHeld.2.2.1))).trans (hHeld.2.2.1)
            have HS3_ := (hb.cell (World.block_lt_of_cell? _ _ (hHeld.2.2.2))).trans (hHeld.2.2.2)
            refine ⟨_, rfl, ?_⟩
            have n0_ := Aside0.mk (Kd.R_below (mR HO_0.out) hb)
            have n1_ := Aside0.mk (Kept.below (S := (fun k_ => P0_ k_)) (mK HK.out) hb)
            have n2_ := Aside0.mk (below_step (mB HB.out) hb)
            clear HO_0; clear HK; clear HB
            have HO_0 := n0_
            have HK := n1_
            have HB := n2_
            clear n0_; clear n1_; clear n2_
            (try clear hb); (try clear hb2); (try clear hk); (try clear hi)
            refine hK.out _ _ ⟨HS0_, HS1_, HS2_, HS3_⟩ (fun hHeld => ?_)
            clear hK; clear K
            refine norm_ (a' := ?_) ?_ ?_
            rotate_left
            ·show Act.put _ (some 32) _ = _
             simp only [Act.put, List.setIfInBounds_toArray, List.set_cons_zero, List.set_cons_succ, i64_w, i32_w]
             rfl
            refine plan_ [(15, 33), (16, 34)] ?_
            iterate 2 (refine planP_ (v := ?_) (a' := ?_) rfl rfl (any_of HT_.out (by kernel_rfl)) (fun _ _ _ h => h) (Or.inl ⟨by rfl, ?_⟩) ?_ ?_; rotate_left; (intro w'; go_simp; with_reducible rfl); rotate_left; (simp only [Act.put, List.setIfInBounds_toArray, List.set_cons_zero, List.set_cons_succ, i64_w, i32_w]; rfl))
            refine planEnd_ ?_
            refine done_ (done_of HT_.out (by kernel_rfl)) ?_
            try go_wp2
            have n0_ := Aside0.mk (Kd.R_drew HO_0.out)
            have n1_ := Aside0.mk (Kept.drew HK.out)
            have n2_ := Aside0.mk (below_drew1 HB.out)
            clear HO_0; clear HK; clear HB
            have HO_0 := n0_
            have HK := n1_
            have HB := n2_
            clear n0_; clear n1_; clear n2_
            have p118 : 0 ≤ ((ji9) : Int) := oda
            have q118 : (ji9) < (x0_2.length : Int) := oda
            obtain ⟨ad118, e118, hx118_0, hx118_1⟩ := at_T40 (Kd.R_reads' HO_0.out).2.2 (ji9) p118 q118
            obtain rfl : ad115 = ad118 := (by injection e118)
            replace p118 := eq_true p118
            replace q118 := eq_true q118
            have p119 : 0 ≤ (x9_2 : Int) := oda
            have q119 : x9_2 < (x0_2.length : Int) := oda
            obtain ⟨ad119, e119, hx119_0, hx119_1⟩ := at_T40 (Kd.R_reads' HO_0.out).2.2 x9_2 p119 q119
            obtain rfl : ad115 = ad119 := (by injection e119)
            replace p119 := eq_true p119
            replace q119 := eq_true q119
            have p14 : 0 ≤ (x9_2 : Int) := oda
            have q14 : (x9_2 : Int) < ((x0_2.length : Int) : Int) := oda
            obtain ⟨go14, co14, eo14, gb14, gl14, cl14, HG14⟩ := Kd.R_form HO_0.out (by omega)
            (first | cases eo14 | (injection eo14 with ea_ en_ ec_; (first | subst ea_ | (injection ea_ with ea_; subst ea_)); subst ec_; clear en_))
            have GB14 := Aside0.mk gb14
            have GG14 := Aside0.mk HG14
            clear gb14; clear gl14; clear HG14
            have HMgo14 := Aside0.mk (show (P0_ go14 ∨ w.heap.size ≤ go14) from (HO_0.out.1 _ rfl))
            (first | simp only [add_plain] at hx115_0 | skip)
            (first | simp only [add_plain] at hx115_1 | skip)
            (first | simp only [add_plain] at hx116_0 | skip)
            (first | simp only [add_plain] at hx116_1 | skip)
            (first | simp only [add_plain] at hx118_0 | skip)
            (first | simp only [add_plain] at hx118_1 | skip)
            (first | simp only [add_plain] at hx119_0 | skip)
            (first | simp only [add_plain] at hx119_1 | skip)
            obtain ⟨ce14, hcl14, hM14, hcc14, hfr14⟩ := Kd.R_elem HO_0.out z40 (x9_2 : Int) p14 q14
            obtain rfl := k40_openM hM14
            have hx14_0 : World.cell? _ ⟨go14, (x9_2 : Int).toNat * 2, none⟩ = some (.int .i64 ((rd_T40 x0_2 x9_2).f0)) := hcc14 0 _ rfl
            have hx14_1 : World.cell? _ ⟨go14, (x9_2 : Int).toNat * 2 + 1, none⟩ = some (.int .i64 ((rd_T40 x0_2 x9_2).f1)) := hcc14 1 _ rfl
            have hf14_0 : World.frozen? _ ⟨go14, (x9_2 : Int).toNat * 2, none⟩ = false := hfr14 0
            have hf14_1 : World.frozen? _ ⟨go14, (x9_2 : Int).toNat * 2 + 1, none⟩ = false := hfr14 1
            clear hcl14; clear hcc14; clear hfr14; clear hM14
            replace p14 := eq_true p14
            replace q14 := eq_true q14
            obtain ⟨ce20, hcl20, hM20, hcc20, hfr20⟩ := Kd.R_elem HO_0.out z40 (x9_2 : Int) (oda) (by have h_ : (x9_2 : Int) < ((x0_2.length : Int) : Int) := oda; first | exact h_ | (have e_ := (Kd.R_reads' HO_0.out).1; omega) | simpa using h_)
            obtain rfl := k40_openM hM20
            have HP20 := (Kd.R_seg HO_0.out (x9_2 : Int) (oda) (by have h_ : (x9_2 : Int) < ((x0_2.length : Int) : Int) := oda; first | exact h_ | (have e_ := (Kd.R_reads' HO_0.out).1; omega) | simpa using h_) (seg := [.int .i64 ((rd_T40 x0_2 (ji9)).f0), .int .i64 ((rd_T40 x0_2 (ji9)).f1)]) (j := 0) hcl20 hcc20 (show 2 ≤ 2 from by decide) (x' := (⟨(rd_T40 x0_2 (ji9)).f0, (rd_T40 x0_2 (ji9)).f1⟩ : S40)) (k40_mkM _ _ _ (⟨(rd_T40 x0_2 (ji9)).f0, (rd_T40 x0_2 (ji9)).f1⟩ : S40) ) (fun _ hk => hk)).1
            rw [← Ny120.out] at HP20
            have HQ20 := Aside0.mk HP20
            clear hcl20; clear hcc20; clear hfr20; clear hM20; clear HP20
            have p15 : 0 ≤ ((ji9) : Int) := oda
            have q15 : ((ji9) : Int) < ((x0_2.length : Int) : Int) := oda
            obtain ⟨ce15, hcl15, hM15, hcc15, hfr15⟩ := Kd.R_elem HQ20.out z40 ((ji9) : Int) p15 q15
            obtain rfl := k40_openM hM15
            have hx15_0 : World.cell? _ ⟨go14, ((ji9) : Int).toNat * 2, none⟩ = some (.int .i64 ((rd_T40 y120 (ji9)).f0)) := hcc15 0 _ rfl
            have hx15_1 : World.cell? _ ⟨go14, ((ji9) : Int).toNat * 2 + 1, none⟩ = some (.int .i64 ((rd_T40 y120 (ji9)).f1)) := hcc15 1 _ rfl
            have hf15_0 : World.frozen? _ ⟨go14, ((ji9) : Int).toNat * 2, none⟩ = false := hfr15 0
            have hf15_1 : World.frozen? _ ⟨go14, ((ji9) : Int).toNat * 2 + 1, none⟩ = false := hfr15 1
            clear hcl15; clear hcc15; clear hfr15; clear hM15
            replace p15 := eq_true p15
            replace q15 := eq_true q15
            obtain ⟨ce21, hcl21, hM21, hcc21, hfr21⟩ := Kd.R_elem HQ20.out z40 ((ji9) : Int) (oda) (by have h_ : ((ji9) : Int) < ((x0_2.length : Int) : Int) := oda; first | exact h_ | (have e_ := (Kd.R_reads' HO_0.out).1; omega) | simpa using h_)
            obtain rfl := k40_openM hM21
            have HP21 := (Kd.R_seg HQ20.out ((ji9) : Int) (oda) (by have h_ : ((ji9) : Int) < ((x0_2.length : Int) : Int) := oda; first | exact h_ | (have e_ := (Kd.R_reads' HO_0.out).1; omega) | simpa using h_) (seg := [.int .i64 ((rd_T40 x0_2 x9_2).f0), .int .i64 ((rd_T40 x0_2 x9_2).f1)]) (j := 0) hcl21 hcc21 (show 2 ≤ 2 from by decide) (x' := (⟨(rd_T40 x0_2 x9_2).f0, (rd_T40 x0_2 x9_2).f1⟩ : S40)) (k40_mkM _ _ _ (⟨(rd_T40 x0_2 x9_2).f0, (rd_T40 x0_2 x9_2).f1⟩ : S40) ) (fun _ hk => hk)).1
            rw [← Ny121.out] at HP21
            have HQ21 := Aside0.mk HP21
            clear hcl21; clear hcc21; clear hfr21; clear hM21; clear HP21
            refine start_ (n := 18) (S := fun w' => w'.cell? ⟨go14, (((ji9)).toNat * 2), none⟩ = some (.int .i64 ((rd_T40 x0_2 (ji9)).f0)) ∧ w'.cell? ⟨go14, (((ji9)).toNat * 2) + 1, none⟩ = some (.int .i64 ((rd_T40 x0_2 (ji9)).f1)) ∧ w'.cell? ⟨go14, ((x9_2).toNat * 2), none⟩ = some (.int .i64 ((rd_T40 x0_2 x9_2).f0)) ∧ w'.cell? ⟨go14, ((x9_2).toNat * 2) + 1, none⟩ = some (.int .i64 ((rd_T40 x0_2 x9_2).f1))) (ds := [15, 17]) #[false, false, false, false, false, false, false, false, false, false, false, false, false, false, false, false, false, false] (by kernel_rfl) rfl rfl ⟨hx118_0, hx118_1, hx119_0, hx119_1⟩ (fun hHeld => ?_); refine with_tabW slices_insertionSortCmpFunc_Step__profile_tidy_1.tab6 slices_insertionSortCmpFunc_Step__profile_tidy_1.bits6 (fun HT_ HW_ => ?_)
            generalize w18.drew = w19 at HO_0 HK HB GG14 HQ20 HQ21 hf14_0 hf14_1 hf15_0 hf15_1 hx115_0 hx115_1 hx116_0 hx116_1 hx118_0 hx118_1 hx119_0 hx119_1 hx14_0 hx14_1 hx15_0 hx15_1 hHeld ⊢
            (try simp [go_sem, World.setCells, show (k40).sz = 2 from rfl] at hf15_0)
            (try simp [go_sem, World.setCells, show (k40).sz = 2 from rfl] at hf15_1)
            (try simp [go_sem, World.setCells, show (k40).sz = 2 from rfl] at hx15_0)
            (try simp [go_sem, World.setCells, show (k40).sz = 2 from rfl] at hx15_1)
            refine plan_ [(0, 37), (1, 38), (2, 39), (3, 40), (4, 41), (5, 42), (6, 43), (7, 44), (8, 45), (10, 47), (11, 48), (12, 49)] ?_
            iterate 12 (refine planP_ (v := ?_) (a' := ?_) rfl rfl (any_of HT_.out (by kernel_rfl)) (fun _ _ _ h => h) (Or.inl ⟨by rfl, ?_⟩) ?_ ?_; rotate_left; (intro w'; go_simp; with_reducible rfl); rotate_left; (simp only [Act.put, List.setIfInBounds_toArray, List.set_cons_zero, List.set_cons_succ, i64_w, i32_w]; rfl))
            refine planEnd_ ?_
            refine plan_ [(9, 46), (13, 50)] ?_
            iterate 2 (refine planT_ (v := ?_) (a' := ?_) rfl rfl (take_ofW HT_.out HW_.out (by kernel_rfl)) (fun _ _ _ h => h) (Or.inl ⟨by rfl, ?_⟩) hHeld ?_ ?_; rotate_left; (rintro w' ⟨s0, s1, s2, s3⟩; go_simp; with_reducible rfl); rotate_left; (simp only [Act.put, List.setIfInBounds_toArray, List.set_cons_zero, List.set_cons_succ, i64_w, i32_w]; rfl))
            refine planEnd_ ?_
            refine plan_ [(14, 51)] ?_
            refine planP_ (v := ?_) (a' := ?_) rfl rfl (any_of HT_.out (by kernel_rfl)) (fun _ _ _ h => h) (Or.inl ⟨by rfl, ?_⟩) ?_ ?_; rotate_left; (intro w'; go_simp; with_reducible rfl); rotate_left; (simp only [Act.put, List.setIfInBounds_toArray, List.set_cons_zero, List.set_cons_succ, i64_w, i32_w]; rfl)
            refine planEnd_ ?_
            refine last_ (i := 15) (N := none) #[true, true, true, true, true, true, true, true, true, true, true, true, true, true, true, true, false, false] rfl rfl (one_of HT_.out (by kernel_rfl)) (by decide) (fun K hK => ?_)
            refine skip_ (w1 := ?_) (by rfl) rfl ?_ ?_
            rotate_left
            ·go_simp
             rfl
            refine hK.out _ _ ?_
            clear hK; clear K
            refine plan_ [(16, 52)] ?_
            refine planP_ (v := ?_) (a' := ?_) rfl rfl (any_of HT_.out (by kernel_rfl)) (fun _ _ _ h => h) (Or.inl ⟨by rfl, ?_⟩) ?_ ?_; rotate_left; (intro w'; go_simp; with_reducible rfl); rotate_left; (simp only [Act.put, List.setIfInBounds_toArray, List.set_cons_zero, List.set_cons_succ, i64_w, i32_w]; rfl)
            refine planEnd_ ?_
            refine last_ (i := 17) (N := none) #[true, true, true, true, true, true, true, true, true, true, true, true, true, true, true, true, true, true] rfl rfl (one_of HT_.out (by kernel_rfl)) (by decide) (fun K hK => ?_)
            refine skip_ (w1 := ?_) (by rfl) rfl ?_ ?_
            rotate_left
            ·go_simp
             rfl
            refine hK.out _ _ ?_
            clear hK; clear K
            refine done_ (done_of HT_.out (by kernel_rfl)) ?_
            try go_wp2
            go_roundg k2
            case measure => have := HK1.out; have := HK2.out; omega
            case rel => exact ⟨(y121), (ji9), (by first | rfl | (simp; done) | (simp only [← hji9] <;> (first | rfl | simp)) | (simp [*]; done)), H', ⟨by have := HK1.out; have := HK2.out; omega⟩, ⟨mR HQ21.out⟩, ⟨by repeat (first | (with_reducible first | exact HK.out | apply Kept.alloc | apply Kept.drewN | apply Kept.drew | refine Kept.setCell ?_ HMgo14.out _ | refine Kept.setCell ?_ HMgo14.out _ | refine Kept.setCell ?_ HMgo14.out _ | refine Kept.setCell ?_ HMgo14.out _) | exact HK.out)⟩, ⟨mBs HB.out⟩⟩
           ·rw [if_neg c13] at H
            have c13b0 : decide (t117 < 0) = false := decide_eq_false c13
            clear c13
            have H' := Aside0.mk H
            clear H
            try go_wp2
            have n0_ := Aside0.mk (Kd.R_drew HO_0.out)
            have n1_ := Aside0.mk (Kept.drew HK.out)
            have n2_ := Aside0.mk (below_drew1 HB.out)
            clear HO_0; clear HK; clear HB
            have HO_0 := n0_
            have HK := n1_
            have HB := n2_
            clear n0_; clear n1_; clear n2_
            obtain ⟨Ao23, co23, eo23⟩ := Kd.R_slice HO_0.out
            (first | subst eo23 | (injection eo23 with f1_ f2_ f3_; have f4_ := f1_.symm; have f5_ := f3_.symm; clear f1_ f2_ f3_; subst f4_; subst f5_))
            have p115 : 0 ≤ (x9_2 : Int) := oda
            have q115 : x9_2 < (x0_2.length : Int) := oda
            obtain ⟨ad115, e115, hx115_0, hx115_1⟩ := at_T40 (Kd.R_reads' HO_0.out).2.2 x9_2 p115 q115
            cases e115
            replace p115 := eq_true p115
            replace q115 := eq_true q115
            have p116 : 0 ≤ ((ji9) : Int) := oda
            have q116 : (ji9) < (x0_2.length : Int) := oda
            obtain ⟨ad116, e116, hx116_0, hx116_1⟩ := at_T40 (Kd.R_reads' HO_0.out).2.2 (ji9) p116 q116
            obtain rfl : ad115 = ad116 := (by injection e116)
            replace p116 := eq_true p116
            replace q116 := eq_true q116
            refine start_ (n := 17) (S := fun w' => w'.cell? (ad115.add ((x9_2).toNat * 2)) = some (.int .i64 ((rd_T40 x0_2 x9_2).f0)) ∧ w'.cell? ⟨(ad115.add ((x9_2).toNat * 2)).block, (ad115.add ((x9_2).toNat * 2)).off + 1, none⟩ = some (.int .i64 ((rd_T40 x0_2 x9_2).f1)) ∧ w'.cell? (ad115.add (((ji9)).toNat * 2)) = some (.int .i64 ((rd_T40 x0_2 (ji9)).f0)) ∧ w'.cell? ⟨(ad115.add (((ji9)).toNat * 2)).block, (ad115.add (((ji9)).toNat * 2)).off + 1, none⟩ = some (.int .i64 ((rd_T40 x0_2 (ji9)).f1))) (ds := []) #[false, false, false, false, false, false, false, false, false, false, false, false, false, false, false, false, false] (by kernel_rfl) rfl rfl ⟨hx115_0, hx115_1, hx116_0, hx116_1⟩ (fun hHeld => ?_); refine with_tabW slices_insertionSortCmpFunc_Step__profile_tidy_1.tab4 slices_insertionSortCmpFunc_Step__profile_tidy_1.bits4 (fun HT_ HW_ => ?_)
            generalize wr.drew = w22 at HO_0 HK HB hx115_0 hx115_1 hx116_0 hx116_1 hHeld ⊢
            refine plan_ [(0, 18), (1, 19), (2, 20), (3, 21), (4, 22), (5, 23), (6, 24), (7, 25), (9, 27), (10, 28), (11, 29), (12, 30)] ?_
            iterate 12 (refine planP_ (v := ?_) (a' := ?_) rfl rfl (any_of HT_.out (by kernel_rfl)) (fun _ _ _ h => h) (Or.inl ⟨by rfl, ?_⟩) ?_ ?_; rotate_left; (intro w'; go_simp; with_reducible rfl); rotate_left; (simp only [Act.put, List.setIfInBounds_toArray, List.set_cons_zero, List.set_cons_succ, i64_w, i32_w]; rfl))
            refine planEnd_ ?_
            refine plan_ [(8, 26), (13, 31)] ?_
            iterate 2 (refine planT_ (v := ?_) (a' := ?_) rfl rfl (take_ofW HT_.out HW_.out (by kernel_rfl)) (fun _ _ _ h => h) (Or.inl ⟨by rfl, ?_⟩) hHeld ?_ ?_; rotate_left; (rintro w' ⟨s0, s1, s2, s3⟩; go_simp; with_reducible rfl); rotate_left; (simp only [Act.put, List.setIfInBounds_toArray, List.set_cons_zero, List.set_cons_succ, i64_w, i32_w]; rfl))
            refine planEnd_ ?_
            refine one_ (i := 14) (N := some 32) #[true, true, true, true, true, true, true, true, true, true, true, true, true, true, true, false, false] rfl rfl (one_of HT_.out (by kernel_rfl)) (by decide) (fun K hK => ?_)
            refine goesV_ C_.hf C_.hname C_.hb #[.agg #[.int .i64 ((rd_T40 x0_2 x9_2).f0), .int .i64 ((rd_T40 x0_2 x9_2).f1)], .agg #[.int .i64 ((rd_T40 x0_2 (ji9)).f0), .int .i64 ((rd_T40 x0_2 (ji9)).f1)]] (by rfl) rfl rfl (by (try simp only [List.map_toArray, List.map_cons, List.map_nil]); first | done | (simp only [hji9]; rfl) | rfl | (simp only [List.length_drop, List.length_take]; rfl)) rfl ?_
            with_reducible refine (C_.calls ((rd_T40 x0_2 x9_2).f0) ((rd_T40 x0_2 x9_2).f1) ((rd_T40 x0_2 (ji9)).f0) ((rd_T40 x0_2 (ji9)).f1) t117 _ A12.out).mono ?_
            rintro e w24 ⟨rfl, hb⟩
            have HS0_ := (hb.cell (World.block_lt_of_cell? _ _ (hHeld.1))).trans (hHeld.1)
            have HS1_ := (hb.cell (World.block_lt_of_cell? _ _ (hHeld.2.1))).trans (hHeld.2.1)
            have HS2_ := (hb.cell (World.block_lt_of_cell? _ _ (hHeld.2.2.1))).trans (hHeld.2.2.1)
            have HS3_ := (hb.cell (World.block_lt_of_cell? _ _ (hHeld.2.2.2))).trans (hHeld.2.2.2)
            refine ⟨_, rfl, ?_⟩
            have n0_ := Aside0.mk (Kd.R_below (mR HO_0.out) hb)
            have n1_ := Aside0.mk (Kept.below (S := (fun k_ => P0_ k_)) (mK HK.out) hb)
            have n2_ := Aside0.mk (below_step (mB HB.out) hb)
            clear HO_0; clear HK; clear HB
            have HO_0 := n0_
            have HK := n1_
            have HB := n2_
            clear n0_; clear n1_; clear n2_
            (try clear hb); (try clear hb2); (try clear hk); (try clear hi)
            refine hK.out _ _ ⟨HS0_, HS1_, HS2_, HS3_⟩ (fun hHeld => ?_)
            clear hK; clear K
            refine norm_ (a' := ?_) ?_ ?_
            rotate_left
            ·show Act.put _ (some 32) _ = _
             simp only [Act.put, List.setIfInBounds_toArray, List.set_cons_zero, List.set_cons_succ, i64_w, i32_w]
             rfl
            refine plan_ [(15, 33), (16, 34)] ?_
            iterate 2 (refine planP_ (v := ?_) (a' := ?_) rfl rfl (any_of HT_.out (by kernel_rfl)) (fun _ _ _ h => h) (Or.inl ⟨by rfl, ?_⟩) ?_ ?_; rotate_left; (intro w'; go_simp; with_reducible rfl); rotate_left; (simp only [Act.put, List.setIfInBounds_toArray, List.set_cons_zero, List.set_cons_succ, i64_w, i32_w]; rfl))
            refine planEnd_ ?_
            refine done_ (done_of HT_.out (by kernel_rfl)) ?_
            try go_wp2
            go_roundg k2
            case measure => have := HK1.out; have := HK2.out; omega
            case rel => exact ⟨(x0_2), (wrap64 (x8_1 + 1)), ez, H', ⟨by have := HK1.out; have := HK2.out; omega⟩, ⟨mR HO_0.out⟩, ⟨mK HK.out⟩, ⟨mB HB.out⟩⟩
          ·rw [if_neg c11] at H
           exact absurd H (by simp)
         ·rw [if_neg c10] at H
          exact absurd H (by simp)
        ·rw [if_neg c8] at H
         exact absurd H (by simp)
       ·rw [if_neg c7] at H
        exact absurd H (by simp)
      ·rw [if_neg c6] at H
       have c6b0 : decide (a1 < x9_2) = false := decide_eq_false c6
       clear c6
       have H' := Aside0.mk H
       clear H
       try go_wp2
       have n0_ := Aside0.mk (Kd.R_drew HO_0.out)
       have n1_ := Aside0.mk (Kept.drew HK.out)
       have n2_ := Aside0.mk (below_drew1 HB.out)
       clear HO_0; clear HK; clear HB
       have HO_0 := n0_
       have HK := n1_
       have HB := n2_
       clear n0_; clear n1_; clear n2_
       refine start_ (n := 17) (S := fun w' => True) (ds := []) #[false, false, false, false, false, false, false, false, false, false, false, false, false, false, false, false, false] (by kernel_rfl) rfl rfl trivial (fun hHeld => ?_); refine with_tabW slices_insertionSortCmpFunc_Step__profile_tidy_1.tab4 slices_insertionSortCmpFunc_Step__profile_tidy_1.bits4 (fun HT_ HW_ => ?_)
       generalize wr.drew = w25 at HO_0 HK HB hHeld ⊢
       refine plan_ [(0, 18), (1, 19), (2, 20), (3, 21)] ?_
       iterate 4 (refine planP_ (v := ?_) (a' := ?_) rfl rfl (any_of HT_.out (by kernel_rfl)) (fun _ _ _ h => h) (Or.inl ⟨by rfl, ?_⟩) ?_ ?_; rotate_left; (intro w'; go_simp; with_reducible rfl); rotate_left; (simp only [Act.put, List.setIfInBounds_toArray, List.set_cons_zero, List.set_cons_succ, i64_w, i32_w]; rfl))
       refine planEnd_ ?_
       refine plan_ [(4, 22), (5, 23), (6, 24), (7, 25), (8, 26), (9, 27), (10, 28), (11, 29), (12, 30), (13, 31), (14, 32), (15, 33)] ?_
       iterate 12 (refine planP_ (v := undef) (a' := ?_) rfl rfl (any_of HT_.out (by kernel_rfl)) (fun _ _ _ h => h) (Or.inr ⟨by rfl, rfl⟩) ?_ ?_; rotate_left; (simp only [Act.put, List.setIfInBounds_toArray, List.set_cons_zero, List.set_cons_succ, i64_w, i32_w]; rfl))
       refine planEnd_ ?_
       refine plan_ [(16, 34)] ?_
       refine planP_ (v := ?_) (a' := ?_) rfl rfl (any_of HT_.out (by kernel_rfl)) (fun _ _ _ h => h) (Or.inl ⟨by rfl, ?_⟩) ?_ ?_; rotate_left; (intro w'; go_simp; with_reducible rfl); rotate_left; (simp only [Act.put, List.setIfInBounds_toArray, List.set_cons_zero, List.set_cons_succ, i64_w, i32_w]; rfl)
       refine planEnd_ ?_
       refine done_ (done_of HT_.out (by kernel_rfl)) ?_
       try go_wp2
       go_roundg k2
       case measure => have := HK1.out; have := HK2.out; omega
       case rel => exact ⟨(x0_2), (wrap64 (x8_1 + 1)), ez, H', ⟨by have := HK1.out; have := HK2.out; omega⟩, ⟨mR HO_0.out⟩, ⟨mK HK.out⟩, ⟨mB HB.out⟩⟩
   ·rw [if_neg c5] at H
    have c5b0 : decide (x8_1 < a2) = false := decide_eq_false c5
    clear c5
    obtain rfl := Option.some.inj H
    go_wp2
    first | go_end0 | ((try simp only [Exit.inBlock, Exit.then]); refine bodyPost_ret (results_none rfl _ _ _) rfl ?_)
    exact ⟨by first | rfl | (simp [errW_none, errW_some] <;> rfl) | (simp [*, errW_none, errW_some] <;> rfl), mR HO_0.out, by repeat (first | (with_reducible first | exact HB.out | apply below_alloc | apply pw_below_drewN | apply below_drew1) | exact HB.out), by repeat (first | (with_reducible first | exact HK.out | apply Kept.alloc | apply Kept.drewN | apply Kept.drew) | exact HK.out)⟩

end Go.Proofs.Ytedpoahndddgfaa.PAll
end
section
namespace Go.Proofs.Ytedpoahndddgfaa.PAll
open Go.RowKit Go.Proofs.YtedpoahndddgfaaW.PrintWords Go.Proofs.YtedpoahndddgfaaW.PrintLast Go.Proofs.YtedpoahndddgfaaW.PrintMore
attribute [local go_sem] max2_int min2_int max_two min_two max_three min_three max_four min_four   -- for this text's walks alone
set_option linter.unusedVariables false
set_option linter.unusedSimpArgs false

/-! ### slices_swapRangeCmpFunc_Step__profile_tidy_1: function 68 -/
def slices_swapRangeCmpFunc_Step__profile_tidy_1.l0 : Nat → List (S40) → Int → Int → Int → Int → Option ((List (S40)))
 | 0, _, _, _, _, _ => none
 | k + 1, x0, x1, x2, x3, x10 => if x10 < x3 then (if 0 ≤ (wrap64 (x2 + x10)) then (if (wrap64 (x2 + x10)) < (x0.length : Int) then (if 0 ≤ (wrap64 (x1 + x10)) then (if (wrap64 (x1 + x10)) < (x0.length : Int) then (slices_swapRangeCmpFunc_Step__profile_tidy_1.l0 k ((x0.set ((wrap64 (x1 + x10)) : Int).toNat (⟨(rd_T40 x0 (wrap64 (x2 + x10))).f0, (rd_T40 x0 (wrap64 (x2 + x10))).f1⟩ : S40)).set ((wrap64 (x2 + x10)) : Int).toNat (⟨(rd_T40 x0 (wrap64 (x1 + x10))).f0, (rd_T40 x0 (wrap64 (x1 + x10))).f1⟩ : S40)) x1 x2 x3 (wrap64 (x10 + 1))) else (none)) else (none)) else (none)) else (none)) else (some x0)
def slices_swapRangeCmpFunc_Step__profile_tidy_1.f (k : Nat) (l0 : List (S40)) (a1 : Int) (a2 : Int) (a3 : Int)  : Option ((List (S40))) := slices_swapRangeCmpFunc_Step__profile_tidy_1.l0 k l0 a1 a2 a3 0
theorem slices_swapRangeCmpFunc_Step__profile_tidy_1.mono_l : ∀ k, (∀ y0 y1 y2 y3 y4, LeO (slices_swapRangeCmpFunc_Step__profile_tidy_1.l0 k y0 y1 y2 y3 y4) (slices_swapRangeCmpFunc_Step__profile_tidy_1.l0 (k + 1) y0 y1 y2 y3 y4))
 | 0 => fun _ _ _ _ _ r h => by simp [slices_swapRangeCmpFunc_Step__profile_tidy_1.l0] at h
 | k + 1 => by
  have ih0 := slices_swapRangeCmpFunc_Step__profile_tidy_1.mono_l k
  ·intro y0 y1 y2 y3 y4
   unfold slices_swapRangeCmpFunc_Step__profile_tidy_1.l0
   repeat' first
   | (with_reducible exact ih0 _ _ _ _ _)
   | (with_reducible exact LeO.refl _)
   | (with_reducible exact LeO.none _)
   | (with_reducible refine LeO.ite ?_ ?_)
   | (with_reducible refine LeO.bind ?_ (fun _ => ?_))
   | exact ih0 _ _ _ _ _
   | exact LeO.none _
   | refine LeO.ite ?_ ?_
   | refine LeO.bind ?_ (fun _ => ?_)
theorem slices_swapRangeCmpFunc_Step__profile_tidy_1.mono : ∀ a0 a1 a2 a3 k, LeO (slices_swapRangeCmpFunc_Step__profile_tidy_1.f k a0 a1 a2 a3) (slices_swapRangeCmpFunc_Step__profile_tidy_1.f (k + 1) a0 a1 a2 a3) := by
 intro a0 a1 a2 a3 k
 have ih0 := slices_swapRangeCmpFunc_Step__profile_tidy_1.mono_l k
 unfold slices_swapRangeCmpFunc_Step__profile_tidy_1.f
 repeat' first
   | (with_reducible exact ih0 _ _ _ _ _)
   | (with_reducible exact LeO.refl _)
   | (with_reducible exact LeO.none _)
   | (with_reducible refine LeO.ite ?_ ?_)
   | (with_reducible refine LeO.bind ?_ (fun _ => ?_))
   | exact ih0 _ _ _ _ _
   | exact LeO.none _
   | refine LeO.ite ?_ ?_
   | refine LeO.bind ?_ (fun _ => ?_)
def slices_swapRangeCmpFunc_Step__profile_tidy_1.T3 : Bool × List (List Nat × List Nat) := (true, [([], []), ([], []), ([], []), ([1, 2], [1, 2]), ([], []), ([], []), ([], []), ([5, 6], [5, 6]), ([], []), ([], []), ([], []), ([9, 10], [9, 10]), ([8, 11], [8, 11]), ([12], [12]), ([], []), ([], []), ([], []), ([15, 16], [15, 16]), ([14, 17], [14, 17]), ([18], [18]), ([0, 3, 0, 1, 2, 3, 8, 9, 10, 11, 12, 13, 19], [0, 3]), ([20, 13, 0, 1, 2, 3, 8, 9, 10, 11, 12, 13, 19], [13, 20]), ([4, 7, 0, 1, 2, 3, 4, 5, 6, 7, 8, 9, 10, 11, 12, 13, 14, 15, 16, 17, 18, 19, 20, 21], [4, 7]), ([22, 19, 21, 0, 1, 2, 3, 4, 5, 6, 7, 8, 9, 10, 11, 12, 13, 14, 15, 16, 17, 18, 19, 20, 21], [19, 22])])
def slices_swapRangeCmpFunc_Step__profile_tidy_1.B3 : List Nat := [0, 0, 0, 6, 0, 0, 0, 96, 0, 0, 0, 1536, 3840, 7936, 0, 0, 0, 98304, 245760, 507904, 1048335, 2096911, 4194303, 8388607]
theorem slices_swapRangeCmpFunc_Step__profile_tidy_1.tab3 : rtab .any (opsOf Try.f68 3) = slices_swapRangeCmpFunc_Step__profile_tidy_1.T3 := by kernel_rfl
theorem slices_swapRangeCmpFunc_Step__profile_tidy_1.bits3 : waitsOk slices_swapRangeCmpFunc_Step__profile_tidy_1.T3.2 slices_swapRangeCmpFunc_Step__profile_tidy_1.B3 = true := by kernel_rfl
set_option maxHeartbeats 8000000 in
set_option maxRecDepth 100000 in
theorem slices_swapRangeCmpFunc_Step__profile_tidy_1.calls {fv_ : Nat} {fn_ : Func} (C_ : Cmp40 fv_ fn_) (k : Nat) (P0_ : Nat → Prop) (u9000_ : Value) (l0 : List (S40)) (a1 : Int) (a2 : Int) (a3 : Int)  (r : List (S40)) (w0 w : World) (hB : Below w0.heap.size w0 w) (ho0 : Kd.R k40 40 w w0.heap.size P0_ u9000_ l0) (h : slices_swapRangeCmpFunc_Step__profile_tidy_1.f k l0 a1 a2 a3 = some r) :
  Calls Try.prog 68 #[u9000_, .int .i64 a1, .int .i64 a2, .int .i64 a3, .func (.func fv_) #[] #[]] w fun e w' => e = .returned (.tuple #[]) ∧ Kd.R k40 40 w' w0.heap.size (fun k_ => (P0_ k_ ∨ w.heap.size ≤ k_)) u9000_ r ∧ Below w0.heap.size w0 w' ∧ Kept w w' (fun k_ => P0_ k_) := by
 have hu40 := Try.underlying40
 have HO0 := Aside0.mk (show Kd.R k40 40 w w0.heap.size (fun k_ => (P0_ k_ ∨ w.heap.size ≤ k_)) u9000_ l0 from Kd.R_mono ho0 (fun k_ hk => (.inl hk)))
 have HK := Aside0.mk (Kept.refl w (fun k_ => P0_ k_))
 have HW0 := Aside0.mk hB.size
 have HB := Aside0.mk hB
 clear hB
 have H : (slices_swapRangeCmpFunc_Step__profile_tidy_1.l0 k l0 a1 a2 a3 0) = some r := h
 clear h
 have H' := Aside0.mk H
 clear H
 go_enter Try.func68, Try.ntmps68
 go_wp2
 go_loopg [10] k (fun kq v10 w' => ∃ (x0_1 : List (S40)) (x10_1 : Int), v10 = .int .i64 x10_1 ∧ Aside0 (slices_swapRangeCmpFunc_Step__profile_tidy_1.l0 kq x0_1 a1 a2 a3 x10_1 = some r) ∧ Aside0 (kq ≤ k) ∧ Aside0 (Kd.R k40 40 w' w0.heap.size (fun k_ => (P0_ k_ ∨ w.heap.size ≤ k_)) u9000_ x0_1) ∧ Aside0 (Kept w w' (fun k_ => P0_ k_)) ∧ Aside0 (Below w0.heap.size w0 w'))
 case atStart => exact ⟨(l0), (0), ez, H', ⟨Nat.le_refl _⟩, ⟨mR HO0.out⟩, ⟨mK HK.out⟩, ⟨mB HB.out⟩⟩
 case round =>
  clear H'
  (try clear p2)
  obtain ⟨x0_1, x10_1, rfl, HA, HK1, HO_0, HK, HB⟩ := hrel
  cases gk with
  | zero => exact absurd HA.out (by simp [slices_swapRangeCmpFunc_Step__profile_tidy_1.l0])
  | succ k1 =>
   have H := HA.out
   clear HA
   simp only [slices_swapRangeCmpFunc_Step__profile_tidy_1.l0] at H
   by_cases c6 : x10_1 < a3
   ·rw [if_pos c6] at H
    have c6b0 : decide (x10_1 < a3) = true := decide_eq_true c6
    clear c6
    obtain ⟨ji7, hji7⟩ : ∃ j_ : Int, (wrap64 (a2 + x10_1)) = j_ := ⟨_, rfl⟩
    replace H : (if 0 ≤ (ji7) then (if (ji7) < (x0_1.length : Int) then (if 0 ≤ (wrap64 (a1 + x10_1)) then (if (wrap64 (a1 + x10_1)) < (x0_1.length : Int) then (slices_swapRangeCmpFunc_Step__profile_tidy_1.l0 k1 ((x0_1.set ((wrap64 (a1 + x10_1)) : Int).toNat (⟨(rd_T40 x0_1 (ji7)).f0, (rd_T40 x0_1 (ji7)).f1⟩ : S40)).set ((ji7) : Int).toNat (⟨(rd_T40 x0_1 (wrap64 (a1 + x10_1))).f0, (rd_T40 x0_1 (wrap64 (a1 + x10_1))).f1⟩ : S40)) a1 a2 a3 (wrap64 (x10_1 + 1))) else (none)) else (none)) else (none)) else (none)) = some r := by first | (rw [hji7] at H; exact H) | (simp only [hji7] at H ⊢; exact H)
    have hji7w : (IntKind.i64.wrap (a2 + x10_1)) = ji7 := (i64_w _).trans hji7
    by_cases c8 : 0 ≤ (ji7)
    ·rw [if_pos c8] at H
     have c8b0 : decide (0 ≤ (ji7)) = true := decide_eq_true c8
     clear c8
     by_cases c9 : (ji7) < (x0_1.length : Int)
     ·rw [if_pos c9] at H
      have c9b0 : decide ((ji7) < (x0_1.length : Int)) = true := decide_eq_true c9
      clear c9
      obtain ⟨ji10, hji10⟩ : ∃ j_ : Int, (wrap64 (a1 + x10_1)) = j_ := ⟨_, rfl⟩
      replace H : (if 0 ≤ (ji10) then (if (ji10) < (x0_1.length : Int) then (slices_swapRangeCmpFunc_Step__profile_tidy_1.l0 k1 ((x0_1.set ((ji10) : Int).toNat (⟨(rd_T40 x0_1 (ji7)).f0, (rd_T40 x0_1 (ji7)).f1⟩ : S40)).set ((ji7) : Int).toNat (⟨(rd_T40 x0_1 (ji10)).f0, (rd_T40 x0_1 (ji10)).f1⟩ : S40)) a1 a2 a3 (wrap64 (x10_1 + 1))) else (none)) else (none)) = some r := by first | (rw [hji10] at H; exact H) | (simp only [hji10] at H ⊢; exact H)
      have hji10w : (IntKind.i64.wrap (a1 + x10_1)) = ji10 := (i64_w _).trans hji10
      (try simp only [hji10] at hji7)
      (try simp only [hji10w] at hji7w)
      by_cases c11 : 0 ≤ (ji10)
      ·rw [if_pos c11] at H
       have c11b0 : decide (0 ≤ (ji10)) = true := decide_eq_true c11
       clear c11
       by_cases c12 : (ji10) < (x0_1.length : Int)
       ·rw [if_pos c12] at H
        have c12b0 : decide ((ji10) < (x0_1.length : Int)) = true := decide_eq_true c12
        clear c12
        obtain ⟨y124, hy124⟩ : ∃ y_ : List (S40), y_ = (x0_1.set ((ji10) : Int).toNat (⟨(rd_T40 x0_1 (ji7)).f0, (rd_T40 x0_1 (ji7)).f1⟩ : S40)) := ⟨_, rfl⟩
        replace H : (slices_swapRangeCmpFunc_Step__profile_tidy_1.l0 k1 (y124.set ((ji7) : Int).toNat (⟨(rd_T40 x0_1 (ji10)).f0, (rd_T40 x0_1 (ji10)).f1⟩ : S40)) a1 a2 a3 (wrap64 (x10_1 + 1))) = some r := mH hy124 H
        have Ny124 := Aside0.mk hy124
        clear hy124
        obtain ⟨y125, hy125⟩ : ∃ y_ : List (S40), y_ = (y124.set ((ji7) : Int).toNat (⟨(rd_T40 x0_1 (ji10)).f0, (rd_T40 x0_1 (ji10)).f1⟩ : S40)) := ⟨_, rfl⟩
        replace H : (slices_swapRangeCmpFunc_Step__profile_tidy_1.l0 k1 y125 a1 a2 a3 (wrap64 (x10_1 + 1))) = some r := mH hy125 H
        have Ny125 := Aside0.mk hy125
        clear hy125
        have H' := Aside0.mk H
        clear H
        try go_wp2
        have n0_ := Aside0.mk (Kd.R_drew HO_0.out)
        have n1_ := Aside0.mk (Kept.drew HK.out)
        have n2_ := Aside0.mk (below_drew1 HB.out)
        clear HO_0; clear HK; clear HB
        have HO_0 := n0_
        have HK := n1_
        have HB := n2_
        clear n0_; clear n1_; clear n2_
        obtain ⟨Ao16, co16, eo16⟩ := Kd.R_slice HO_0.out
        (first | subst eo16 | (injection eo16 with f1_ f2_ f3_; have f4_ := f1_.symm; have f5_ := f3_.symm; clear f1_ f2_ f3_; subst f4_; subst f5_))
        have p122 : 0 ≤ ((ji7) : Int) := oda
        have q122 : (ji7) < (x0_1.length : Int) := oda
        obtain ⟨ad122, e122, hx122_0, hx122_1⟩ := at_T40 (Kd.R_reads' HO_0.out).2.2 (ji7) p122 q122
        cases e122
        replace p122 := eq_true p122
        replace q122 := eq_true q122
        have p123 : 0 ≤ ((ji10) : Int) := oda
        have q123 : (ji10) < (x0_1.length : Int) := oda
        obtain ⟨ad123, e123, hx123_0, hx123_1⟩ := at_T40 (Kd.R_reads' HO_0.out).2.2 (ji10) p123 q123
        obtain rfl : ad122 = ad123 := (by injection e123)
        replace p123 := eq_true p123
        replace q123 := eq_true q123
        have p13 : 0 ≤ ((ji10) : Int) := oda
        have q13 : ((ji10) : Int) < ((x0_1.length : Int) : Int) := oda
        obtain ⟨go13, co13, eo13, gb13, gl13, cl13, HG13⟩ := Kd.R_form HO_0.out (by omega)
        (first | cases eo13 | (injection eo13 with ea_ en_ ec_; (first | subst ea_ | (injection ea_ with ea_; subst ea_)); subst ec_; clear en_))
        have GB13 := Aside0.mk gb13
        have GG13 := Aside0.mk HG13
        clear gb13; clear gl13; clear HG13
        have HMgo13 := Aside0.mk (show (P0_ go13 ∨ w.heap.size ≤ go13) from (HO_0.out.1 _ rfl))
        (first | simp only [add_plain] at hx122_0 | skip)
        (first | simp only [add_plain] at hx122_1 | skip)
        (first | simp only [add_plain] at hx123_0 | skip)
        (first | simp only [add_plain] at hx123_1 | skip)
        obtain ⟨ce13, hcl13, hM13, hcc13, hfr13⟩ := Kd.R_elem HO_0.out z40 ((ji10) : Int) p13 q13
        obtain rfl := k40_openM hM13
        have hx13_0 : World.cell? _ ⟨go13, ((ji10) : Int).toNat * 2, none⟩ = some (.int .i64 ((rd_T40 x0_1 (ji10)).f0)) := hcc13 0 _ rfl
        have hx13_1 : World.cell? _ ⟨go13, ((ji10) : Int).toNat * 2 + 1, none⟩ = some (.int .i64 ((rd_T40 x0_1 (ji10)).f1)) := hcc13 1 _ rfl
        have hf13_0 : World.frozen? _ ⟨go13, ((ji10) : Int).toNat * 2, none⟩ = false := hfr13 0
        have hf13_1 : World.frozen? _ ⟨go13, ((ji10) : Int).toNat * 2 + 1, none⟩ = false := hfr13 1
        clear hcl13; clear hcc13; clear hfr13; clear hM13
        replace p13 := eq_true p13
        replace q13 := eq_true q13
        obtain ⟨ce17, hcl17, hM17, hcc17, hfr17⟩ := Kd.R_elem HO_0.out z40 ((ji10) : Int) (oda) (by have h_ : ((ji10) : Int) < ((x0_1.length : Int) : Int) := oda; first | exact h_ | (have e_ := (Kd.R_reads' HO_0.out).1; omega) | simpa using h_)
        obtain rfl := k40_openM hM17
        have HP17 := (Kd.R_seg HO_0.out ((ji10) : Int) (oda) (by have h_ : ((ji10) : Int) < ((x0_1.length : Int) : Int) := oda; first | exact h_ | (have e_ := (Kd.R_reads' HO_0.out).1; omega) | simpa using h_) (seg := [.int .i64 ((rd_T40 x0_1 (ji7)).f0), .int .i64 ((rd_T40 x0_1 (ji7)).f1)]) (j := 0) hcl17 hcc17 (show 2 ≤ 2 from by decide) (x' := (⟨(rd_T40 x0_1 (ji7)).f0, (rd_T40 x0_1 (ji7)).f1⟩ : S40)) (k40_mkM _ _ _ (⟨(rd_T40 x0_1 (ji7)).f0, (rd_T40 x0_1 (ji7)).f1⟩ : S40) ) (fun _ hk => hk)).1
        rw [← Ny124.out] at HP17
        have HQ17 := Aside0.mk HP17
        clear hcl17; clear hcc17; clear hfr17; clear hM17; clear HP17
        have p14 : 0 ≤ ((ji7) : Int) := oda
        have q14 : ((ji7) : Int) < ((x0_1.length : Int) : Int) := oda
        obtain ⟨ce14, hcl14, hM14, hcc14, hfr14⟩ := Kd.R_elem HQ17.out z40 ((ji7) : Int) p14 q14
        obtain rfl := k40_openM hM14
        have hx14_0 : World.cell? _ ⟨go13, ((ji7) : Int).toNat * 2, none⟩ = some (.int .i64 ((rd_T40 y124 (ji7)).f0)) := hcc14 0 _ rfl
        have hx14_1 : World.cell? _ ⟨go13, ((ji7) : Int).toNat * 2 + 1, none⟩ = some (.int .i64 ((rd_T40 y124 (ji7)).f1)) := hcc14 1 _ rfl
        have hf14_0 : World.frozen? _ ⟨go13, ((ji7) : Int).toNat * 2, none⟩ = false := hfr14 0
        have hf14_1 : World.frozen? _ ⟨go13, ((ji7) : Int).toNat * 2 + 1, none⟩ = false := hfr14 1
        clear hcl14; clear hcc14; clear hfr14; clear hM14
        replace p14 := eq_true p14
        replace q14 := eq_true q14
        obtain ⟨ce18, hcl18, hM18, hcc18, hfr18⟩ := Kd.R_elem HQ17.out z40 ((ji7) : Int) (oda) (by have h_ : ((ji7) : Int) < ((x0_1.length : Int) : Int) := oda; first | exact h_ | (have e_ := (Kd.R_reads' HO_0.out).1; omega) | simpa using h_)
        obtain rfl := k40_openM hM18
        have HP18 := (Kd.R_seg HQ17.out ((ji7) : Int) (oda) (by have h_ : ((ji7) : Int) < ((x0_1.length : Int) : Int) := oda; first | exact h_ | (have e_ := (Kd.R_reads' HO_0.out).1; omega) | simpa using h_) (seg := [.int .i64 ((rd_T40 x0_1 (ji10)).f0), .int .i64 ((rd_T40 x0_1 (ji10)).f1)]) (j := 0) hcl18 hcc18 (show 2 ≤ 2 from by decide) (x' := (⟨(rd_T40 x0_1 (ji10)).f0, (rd_T40 x0_1 (ji10)).f1⟩ : S40)) (k40_mkM _ _ _ (⟨(rd_T40 x0_1 (ji10)).f0, (rd_T40 x0_1 (ji10)).f1⟩ : S40) ) (fun _ hk => hk)).1
        rw [← Ny125.out] at HP18
        have HQ18 := Aside0.mk HP18
        clear hcl18; clear hcc18; clear hfr18; clear hM18; clear HP18
        refine start_ (n := 24) (S := fun w' => w'.cell? ⟨go13, (((ji7)).toNat * 2), none⟩ = some (.int .i64 ((rd_T40 x0_1 (ji7)).f0)) ∧ w'.cell? ⟨go13, (((ji7)).toNat * 2) + 1, none⟩ = some (.int .i64 ((rd_T40 x0_1 (ji7)).f1)) ∧ w'.cell? ⟨go13, (((ji10)).toNat * 2), none⟩ = some (.int .i64 ((rd_T40 x0_1 (ji10)).f0)) ∧ w'.cell? ⟨go13, (((ji10)).toNat * 2) + 1, none⟩ = some (.int .i64 ((rd_T40 x0_1 (ji10)).f1))) (ds := [21, 23]) #[false, false, false, false, false, false, false, false, false, false, false, false, false, false, false, false, false, false, false, false, false, false, false, false] (by kernel_rfl) rfl rfl ⟨hx122_0, hx122_1, hx123_0, hx123_1⟩ (fun hHeld => ?_); refine with_tabW slices_swapRangeCmpFunc_Step__profile_tidy_1.tab3 slices_swapRangeCmpFunc_Step__profile_tidy_1.bits3 (fun HT_ HW_ => ?_)
        generalize wr.drew = w15 at HO_0 HK HB GG13 HQ17 HQ18 hf13_0 hf13_1 hf14_0 hf14_1 hx122_0 hx122_1 hx123_0 hx123_1 hx13_0 hx13_1 hx14_0 hx14_1 hHeld ⊢
        (try simp [go_sem, World.setCells, show (k40).sz = 2 from rfl] at hf14_0)
        (try simp [go_sem, World.setCells, show (k40).sz = 2 from rfl] at hf14_1)
        (try simp [go_sem, World.setCells, show (k40).sz = 2 from rfl] at hx14_0)
        (try simp [go_sem, World.setCells, show (k40).sz = 2 from rfl] at hx14_1)
        refine plan_ [(0, 16), (1, 17), (2, 18), (3, 19), (4, 20), (5, 21), (6, 22), (7, 23), (8, 24), (9, 25), (10, 26), (11, 27), (12, 28), (14, 30), (15, 31), (16, 32), (17, 33), (18, 34)] ?_
        iterate 18 (refine planP_ (v := ?_) (a' := ?_) rfl rfl (any_of HT_.out (by kernel_rfl)) (fun _ _ _ h => h) (Or.inl ⟨by rfl, ?_⟩) ?_ ?_; rotate_left; (intro w'; go_simp; with_reducible rfl); rotate_left; (simp only [Act.put, List.setIfInBounds_toArray, List.set_cons_zero, List.set_cons_succ, i64_w, i32_w]; rfl))
        refine planEnd_ ?_
        refine plan_ [(13, 29), (19, 35)] ?_
        iterate 2 (refine planT_ (v := ?_) (a' := ?_) rfl rfl (take_ofW HT_.out HW_.out (by kernel_rfl)) (fun _ _ _ h => h) (Or.inl ⟨by rfl, ?_⟩) hHeld ?_ ?_; rotate_left; (rintro w' ⟨s0, s1, s2, s3⟩; go_simp; with_reducible rfl); rotate_left; (simp only [Act.put, List.setIfInBounds_toArray, List.set_cons_zero, List.set_cons_succ, i64_w, i32_w]; rfl))
        refine planEnd_ ?_
        refine plan_ [(20, 36)] ?_
        refine planP_ (v := ?_) (a' := ?_) rfl rfl (any_of HT_.out (by kernel_rfl)) (fun _ _ _ h => h) (Or.inl ⟨by rfl, ?_⟩) ?_ ?_; rotate_left; (intro w'; go_simp; with_reducible rfl); rotate_left; (simp only [Act.put, List.setIfInBounds_toArray, List.set_cons_zero, List.set_cons_succ, i64_w, i32_w]; rfl)
        refine planEnd_ ?_
        refine last_ (i := 21) (N := none) #[true, true, true, true, true, true, true, true, true, true, true, true, true, true, true, true, true, true, true, true, true, true, false, false] rfl rfl (one_of HT_.out (by kernel_rfl)) (by decide) (fun K hK => ?_)
        refine skip_ (w1 := ?_) (by rfl) rfl ?_ ?_
        rotate_left
        ·go_simp
         rfl
        refine hK.out _ _ ?_
        clear hK; clear K
        refine plan_ [(22, 37)] ?_
        refine planP_ (v := ?_) (a' := ?_) rfl rfl (any_of HT_.out (by kernel_rfl)) (fun _ _ _ h => h) (Or.inl ⟨by rfl, ?_⟩) ?_ ?_; rotate_left; (intro w'; go_simp; with_reducible rfl); rotate_left; (simp only [Act.put, List.setIfInBounds_toArray, List.set_cons_zero, List.set_cons_succ, i64_w, i32_w]; rfl)
        refine planEnd_ ?_
        refine last_ (i := 23) (N := none) #[true, true, true, true, true, true, true, true, true, true, true, true, true, true, true, true, true, true, true, true, true, true, true, true] rfl rfl (one_of HT_.out (by kernel_rfl)) (by decide) (fun K hK => ?_)
        refine skip_ (w1 := ?_) (by rfl) rfl ?_ ?_
        rotate_left
        ·go_simp
         rfl
        refine hK.out _ _ ?_
        clear hK; clear K
        refine done_ (done_of HT_.out (by kernel_rfl)) ?_
        try go_wp2
        go_roundg k1
        case measure => have := HK1.out; omega
        case rel => exact ⟨(y125), (wrap64 (x10_1 + 1)), ez, H', ⟨by have := HK1.out; omega⟩, ⟨mR HQ18.out⟩, ⟨by repeat (first | (with_reducible first | exact HK.out | apply Kept.alloc | apply Kept.drewN | apply Kept.drew | refine Kept.setCell ?_ HMgo13.out _ | refine Kept.setCell ?_ HMgo13.out _ | refine Kept.setCell ?_ HMgo13.out _ | refine Kept.setCell ?_ HMgo13.out _) | exact HK.out)⟩, ⟨mBs HB.out⟩⟩
       ·rw [if_neg c12] at H
        exact absurd H (by simp)
      ·rw [if_neg c11] at H
       exact absurd H (by simp)
     ·rw [if_neg c9] at H
      exact absurd H (by simp)
    ·rw [if_neg c8] at H
     exact absurd H (by simp)
   ·rw [if_neg c6] at H
    have c6b0 : decide (x10_1 < a3) = false := decide_eq_false c6
    clear c6
    obtain rfl := Option.some.inj H
    go_wp2
    first | go_end0 | ((try simp only [Exit.inBlock, Exit.then]); refine bodyPost_ret (results_none rfl _ _ _) rfl ?_)
    exact ⟨by first | rfl | (simp [errW_none, errW_some] <;> rfl) | (simp [*, errW_none, errW_some] <;> rfl), mR HO_0.out, by repeat (first | (with_reducible first | exact HB.out | apply below_alloc | apply pw_below_drewN | apply below_drew1) | exact HB.out), by repeat (first | (with_reducible first | exact HK.out | apply Kept.alloc | apply Kept.drewN | apply Kept.drew) | exact HK.out)⟩

end Go.Proofs.Ytedpoahndddgfaa.PAll
end
section
namespace Go.Proofs.Ytedpoahndddgfaa.PAll
open Go.RowKit Go.Proofs.YtedpoahndddgfaaW.PrintWords Go.Proofs.YtedpoahndddgfaaW.PrintLast Go.Proofs.YtedpoahndddgfaaW.PrintMore
attribute [local go_sem] max2_int min2_int max_two min_two max_three min_three max_four min_four   -- for this text's walks alone
set_option linter.unusedVariables false
set_option linter.unusedSimpArgs false

/-! ### slices_rotateCmpFunc_Step__profile_tidy_1: function 66 -/
def slices_rotateCmpFunc_Step__profile_tidy_1.l0 : Nat → List (S40) → Int → Int → Int → Option ((List (S40)))
 | 0, _, _, _, _ => none
 | k + 1, x0, x2, x10, x11 => if x10 = x11 then ((slices_swapRangeCmpFunc_Step__profile_tidy_1.f k x0 (wrap64 (x2 - x10)) x2 x10).bind fun t126 => (some t126)) else (if x10 > x11 then ((slices_swapRangeCmpFunc_Step__profile_tidy_1.f k x0 (wrap64 (x2 - x10)) x2 x11).bind fun t127 => (slices_rotateCmpFunc_Step__profile_tidy_1.l0 k t127 x2 (wrap64 (x10 - x11)) x11)) else ((slices_swapRangeCmpFunc_Step__profile_tidy_1.f k x0 (wrap64 (x2 - x10)) (wrap64 ((wrap64 (x2 + x11)) - x10)) x10).bind fun t128 => (slices_rotateCmpFunc_Step__profile_tidy_1.l0 k t128 x2 x10 (wrap64 (x11 - x10)))))
def slices_rotateCmpFunc_Step__profile_tidy_1.f (k : Nat) (l0 : List (S40)) (a1 : Int) (a2 : Int) (a3 : Int)  : Option ((List (S40))) := slices_rotateCmpFunc_Step__profile_tidy_1.l0 k l0 a2 (wrap64 (a2 - a1)) (wrap64 (a3 - a2))
theorem slices_rotateCmpFunc_Step__profile_tidy_1.mono_l : ∀ k, (∀ y0 y1 y2 y3, LeO (slices_rotateCmpFunc_Step__profile_tidy_1.l0 k y0 y1 y2 y3) (slices_rotateCmpFunc_Step__profile_tidy_1.l0 (k + 1) y0 y1 y2 y3))
 | 0 => fun _ _ _ _ r h => by simp [slices_rotateCmpFunc_Step__profile_tidy_1.l0] at h
 | k + 1 => by
  have ih0 := slices_rotateCmpFunc_Step__profile_tidy_1.mono_l k
  ·intro y0 y1 y2 y3
   unfold slices_rotateCmpFunc_Step__profile_tidy_1.l0
   repeat' first
   | (with_reducible exact ih0 _ _ _ _)
   | (with_reducible exact slices_swapRangeCmpFunc_Step__profile_tidy_1.mono _ _ _ _ _)
   | (with_reducible exact LeO.refl _)
   | (with_reducible exact LeO.none _)
   | (with_reducible refine LeO.ite ?_ ?_)
   | (with_reducible refine LeO.bind ?_ (fun _ => ?_))
   | exact ih0 _ _ _ _
   | exact slices_swapRangeCmpFunc_Step__profile_tidy_1.mono _ _ _ _ _
   | exact LeO.none _
   | refine LeO.ite ?_ ?_
   | refine LeO.bind ?_ (fun _ => ?_)
theorem slices_rotateCmpFunc_Step__profile_tidy_1.mono : ∀ a0 a1 a2 a3 k, LeO (slices_rotateCmpFunc_Step__profile_tidy_1.f k a0 a1 a2 a3) (slices_rotateCmpFunc_Step__profile_tidy_1.f (k + 1) a0 a1 a2 a3) := by
 intro a0 a1 a2 a3 k
 have ih0 := slices_rotateCmpFunc_Step__profile_tidy_1.mono_l k
 unfold slices_rotateCmpFunc_Step__profile_tidy_1.f
 repeat' first
   | (with_reducible exact ih0 _ _ _ _)
   | (with_reducible exact slices_swapRangeCmpFunc_Step__profile_tidy_1.mono _ _ _ _ _)
   | (with_reducible exact LeO.refl _)
   | (with_reducible exact LeO.none _)
   | (with_reducible refine LeO.ite ?_ ?_)
   | (with_reducible refine LeO.bind ?_ (fun _ => ?_))
   | exact ih0 _ _ _ _
   | exact slices_swapRangeCmpFunc_Step__profile_tidy_1.mono _ _ _ _ _
   | exact LeO.none _
   | refine LeO.ite ?_ ?_
   | refine LeO.bind ?_ (fun _ => ?_)
set_option maxHeartbeats 8000000 in
set_option maxRecDepth 100000 in
theorem slices_rotateCmpFunc_Step__profile_tidy_1.calls {fv_ : Nat} {fn_ : Func} (C_ : Cmp40 fv_ fn_) (k : Nat) (P0_ : Nat → Prop) (u9000_ : Value) (l0 : List (S40)) (a1 : Int) (a2 : Int) (a3 : Int)  (r : List (S40)) (w0 w : World) (hB : Below w0.heap.size w0 w) (ho0 : Kd.R k40 40 w w0.heap.size P0_ u9000_ l0) (h : slices_rotateCmpFunc_Step__profile_tidy_1.f k l0 a1 a2 a3 = some r) :
  Calls Try.prog 66 #[u9000_, .int .i64 a1, .int .i64 a2, .int .i64 a3, .func (.func fv_) #[] #[]] w fun e w' => e = .returned (.tuple #[]) ∧ Kd.R k40 40 w' w0.heap.size (fun k_ => (P0_ k_ ∨ w.heap.size ≤ k_)) u9000_ r ∧ Below w0.heap.size w0 w' ∧ Kept w w' (fun k_ => P0_ k_) := by
 have HO0 := Aside0.mk (show Kd.R k40 40 w w0.heap.size (fun k_ => (P0_ k_ ∨ w.heap.size ≤ k_)) u9000_ l0 from Kd.R_mono ho0 (fun k_ hk => (.inl hk)))
 have HK := Aside0.mk (Kept.refl w (fun k_ => P0_ k_))
 have HW0 := Aside0.mk hB.size
 have HB := Aside0.mk hB
 clear hB
 have H : (slices_rotateCmpFunc_Step__profile_tidy_1.l0 k l0 a2 (wrap64 (a2 - a1)) (wrap64 (a3 - a2))) = some r := h
 clear h
 have H' := Aside0.mk H
 clear H
 go_enter Try.func66, Try.ntmps66
 go_wp2
 go_loopg [10, 11] k (fun kq v10 v11 w' => ∃ (x0_1 : List (S40)) (x10_1 : Int) (x11_1 : Int), v10 = .int .i64 x10_1 ∧ v11 = .int .i64 x11_1 ∧ Aside0 (slices_rotateCmpFunc_Step__profile_tidy_1.l0 kq x0_1 a2 x10_1 x11_1 = some r) ∧ Aside0 (kq ≤ k) ∧ Aside0 (Kd.R k40 40 w' w0.heap.size (fun k_ => (P0_ k_ ∨ w.heap.size ≤ k_)) u9000_ x0_1) ∧ Aside0 (Kept w w' (fun k_ => P0_ k_)) ∧ Aside0 (Below w0.heap.size w0 w'))
 case atStart => exact ⟨(l0), (wrap64 (a2 - a1)), (wrap64 (a3 - a2)), ez, ez, H', ⟨Nat.le_refl _⟩, ⟨mR HO0.out⟩, ⟨mK HK.out⟩, ⟨mB HB.out⟩⟩
 case round =>
  clear H'
  (try clear p2)
  obtain ⟨x0_1, x10_1, x11_1, rfl, rfl, HA, HK1, HO_0, HK, HB⟩ := hrel
  cases gk with
  | zero => exact absurd HA.out (by simp [slices_rotateCmpFunc_Step__profile_tidy_1.l0])
  | succ k1 =>
   have H := HA.out
   clear HA
   simp only [slices_rotateCmpFunc_Step__profile_tidy_1.l0] at H
   by_cases c6 : x10_1 = x11_1
   ·rw [if_pos c6] at H
    have c6b0 : (x10_1 == x11_1) = true := beq_iff_eq.mpr c6
    have c6b1 : (x10_1 != x11_1) = false := bne_eq_false_iff_eq.mpr c6
    clear c6
    replace H := Option.bind_eq_some_iff.mp H
    obtain ⟨t126, A70, H⟩ := H
    replace H : (some t126) = some r := H
    have A7 := Aside0.mk A70
    clear A70
    obtain rfl := Option.some.inj H
    obtain ⟨Ao8, co8, eo8⟩ := Kd.R_slice HO_0.out
    subst eo8
    go_wp2_with (first | ((with_reducible refine gate_callee (f := 68) rfl ?_); refine goesL_ (some 57) rfl rfl Try.func68 (by kernel_rfl) rfl #[.slice Ao8 x0_1.length co8, .int .i64 (wrap64 (a2 - x10_1)), .int .i64 a2, .int .i64 x10_1, .func (.func fv_) #[] #[]] rfl mt ?_; (with_reducible refine (slices_swapRangeCmpFunc_Step__profile_tidy_1.calls C_ k1 (fun k_ => some k_ = (.slice Ao8 x0_1.length co8 : Value).ownBlock) (.slice Ao8 x0_1.length co8) x0_1 (wrap64 (a2 - x10_1)) a2 x10_1  t126 w0 _ ?side1 ?side2 A7.out).mono ?_); (case side1 => repeat (first | (with_reducible first | exact HB.out | apply below_alloc | apply pw_below_drewN | apply below_drew1) | exact HB.out)); (case side2 => exact Kd.R_tight rfl HO_0.out); rintro e w9 ⟨rfl, hy0, hb, hkp⟩; refine ⟨_, rfl, ?_⟩; have n0_ := Aside0.mk (Kd.R_reok rfl hy0 (fun k_ e_ => HO_0.out.1 k_ e_)); have n1_ := Aside0.mk (Kept.then_ (S := (fun k_ => P0_ k_)) (mK HK.out) hkp (fun k_ hs_ => (fun e_ => (HO_0.out.1 k_ e_.symm)) hs_)); have n2_ := Aside0.mk (hb); clear HO_0; clear HK; clear HB; have HO_0 := n0_; have HK := n1_; have HB := n2_; clear n0_ n1_ n2_; (try clear hb); (try clear hkp); (try clear hy0)))
    first | go_end0 | ((try simp only [Exit.inBlock, Exit.then]); refine bodyPost_ret (results_none rfl _ _ _) rfl ?_)
    exact ⟨by first | rfl | (simp [errW_none, errW_some] <;> rfl) | (simp [*, errW_none, errW_some] <;> rfl), mR HO_0.out, by repeat (first | (with_reducible first | exact HB.out | apply below_alloc | apply pw_below_drewN | apply below_drew1) | exact HB.out), by repeat (first | (with_reducible first | exact HK.out | apply Kept.alloc | apply Kept.drewN | apply Kept.drew) | exact HK.out)⟩
   ·rw [if_neg c6] at H
    have c6b0 : (x10_1 == x11_1) = false := beq_eq_false_iff_ne.mpr c6
    have c6b1 : (x10_1 != x11_1) = true := bne_iff_ne.mpr c6
    by_cases c10 : x10_1 > x11_1
    ·rw [if_pos c10] at H
     have c10b0 : decide (x11_1 < x10_1) = true := decide_eq_true c10
     clear c10
     replace H := Option.bind_eq_some_iff.mp H
     obtain ⟨t127, A110, H⟩ := H
     replace H : (slices_rotateCmpFunc_Step__profile_tidy_1.l0 k1 t127 a2 (wrap64 (x10_1 - x11_1)) x11_1) = some r := H
     have A11 := Aside0.mk A110
     clear A110
     have H' := Aside0.mk H
     clear H
     obtain ⟨Ao12, co12, eo12⟩ := Kd.R_slice HO_0.out
     subst eo12
     go_wp2_with (first | ((with_reducible refine gate_callee (f := 68) rfl ?_); refine goesL_ (some 31) rfl rfl Try.func68 (by kernel_rfl) rfl #[.slice Ao12 x0_1.length co12, .int .i64 (wrap64 (a2 - x10_1)), .int .i64 a2, .int .i64 x11_1, .func (.func fv_) #[] #[]] rfl mt ?_; (with_reducible refine (slices_swapRangeCmpFunc_Step__profile_tidy_1.calls C_ k1 (fun k_ => some k_ = (.slice Ao12 x0_1.length co12 : Value).ownBlock) (.slice Ao12 x0_1.length co12) x0_1 (wrap64 (a2 - x10_1)) a2 x11_1  t127 w0 _ ?side1 ?side2 A11.out).mono ?_); (case side1 => repeat (first | (with_reducible first | exact HB.out | apply below_alloc | apply pw_below_drewN | apply below_drew1) | exact HB.out)); (case side2 => exact Kd.R_tight rfl HO_0.out); rintro e w13 ⟨rfl, hy0, hb, hkp⟩; refine ⟨_, rfl, ?_⟩; have n0_ := Aside0.mk (Kd.R_reok rfl hy0 (fun k_ e_ => HO_0.out.1 k_ e_)); have n1_ := Aside0.mk (Kept.then_ (S := (fun k_ => P0_ k_)) (mK HK.out) hkp (fun k_ hs_ => (fun e_ => (HO_0.out.1 k_ e_.symm)) hs_)); have n2_ := Aside0.mk (hb); clear HO_0; clear HK; clear HB; have HO_0 := n0_; have HK := n1_; have HB := n2_; clear n0_ n1_ n2_; (try clear hb); (try clear hkp); (try clear hy0)))
     go_roundg k1
     case measure => have := HK1.out; omega
     case rel => exact ⟨(t127), (wrap64 (x10_1 - x11_1)), (x11_1), ez, ez, H', ⟨by have := HK1.out; omega⟩, ⟨mR HO_0.out⟩, ⟨mK HK.out⟩, ⟨mB HB.out⟩⟩
    ·rw [if_neg c10] at H
     have c10b0 : decide (x11_1 < x10_1) = false := decide_eq_false c10
     clear c10
     replace H := Option.bind_eq_some_iff.mp H
     obtain ⟨t128, A140, H⟩ := H
     replace H : (slices_rotateCmpFunc_Step__profile_tidy_1.l0 k1 t128 a2 x10_1 (wrap64 (x11_1 - x10_1))) = some r := H
     have A14 := Aside0.mk A140
     clear A140
     have H' := Aside0.mk H
     clear H
     obtain ⟨Ao15, co15, eo15⟩ := Kd.R_slice HO_0.out
     subst eo15
     go_wp2_with (first | ((with_reducible refine gate_callee (f := 68) rfl ?_); refine goesL_ (some 46) rfl rfl Try.func68 (by kernel_rfl) rfl #[.slice Ao15 x0_1.length co15, .int .i64 (wrap64 (a2 - x10_1)), .int .i64 (wrap64 ((wrap64 (a2 + x11_1)) - x10_1)), .int .i64 x10_1, .func (.func fv_) #[] #[]] rfl mt ?_; (with_reducible refine (slices_swapRangeCmpFunc_Step__profile_tidy_1.calls C_ k1 (fun k_ => some k_ = (.slice Ao15 x0_1.length co15 : Value).ownBlock) (.slice Ao15 x0_1.length co15) x0_1 (wrap64 (a2 - x10_1)) (wrap64 ((wrap64 (a2 + x11_1)) - x10_1)) x10_1  t128 w0 _ ?side1 ?side2 A14.out).mono ?_); (case side1 => repeat (first | (with_reducible first | exact HB.out | apply below_alloc | apply pw_below_drewN | apply below_drew1) | exact HB.out)); (case side2 => exact Kd.R_tight rfl HO_0.out); rintro e w16 ⟨rfl, hy0, hb, hkp⟩; refine ⟨_, rfl, ?_⟩; have n0_ := Aside0.mk (Kd.R_reok rfl hy0 (fun k_ e_ => HO_0.out.1 k_ e_)); have n1_ := Aside0.mk (Kept.then_ (S := (fun k_ => P0_ k_)) (mK HK.out) hkp (fun k_ hs_ => (fun e_ => (HO_0.out.1 k_ e_.symm)) hs_)); have n2_ := Aside0.mk (hb); clear HO_0; clear HK; clear HB; have HO_0 := n0_; have HK := n1_; have HB := n2_; clear n0_ n1_ n2_; (try clear hb); (try clear hkp); (try clear hy0)))
     go_roundg k1
     case measure => have := HK1.out; omega
     case rel => exact ⟨(t128), (x10_1), (wrap64 (x11_1 - x10_1)), ez, ez, H', ⟨by have := HK1.out; omega⟩, ⟨mR HO_0.out⟩, ⟨mK HK.out⟩, ⟨mB HB.out⟩⟩

end Go.Proofs.Ytedpoahndddgfaa.PAll
end
